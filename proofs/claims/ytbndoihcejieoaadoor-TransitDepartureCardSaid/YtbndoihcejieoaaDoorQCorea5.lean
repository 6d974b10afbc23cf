/-
  Functions of the program and of the references as plain Lean functions, each with a proof that the machine's call comes to what it answers. Conditions: what each contract states.
-/
import Derived.Test.YtbndoihcejieoaaDoorQCorew1
import Derived.Test.YtbndoihcejieoaaDoorQCorev1
import Derived.Test.YtbndoihcejieoaaDoorQCorea1
import Derived.Test.YtbndoihcejieoaaDoorQCorea2
import Derived.Test.YtbndoihcejieoaaDoorQCorea3
import Derived.Test.YtbndoihcejieoaaDoorQCorea4
namespace Go.Proofs.YtbndoihcejieoaaDoor.G
open Go.RowKit Go.Proofs.YtbndoihcejieoaaDoorW.PrintWords Go.Proofs.YtbndoihcejieoaaDoorW.PrintLast Go.Proofs.YtbndoihcejieoaaDoorW.PrintMore
attribute [local go_sem] max2_int min2_int max_two min_two max_three min_three max_four min_four   -- for this text's walks alone
set_option linter.unusedVariables false
set_option linter.unusedSimpArgs false

def customsref24_Deadline.f (k : Nat) (a0 : Int) (a1 : Int) (l2 : List Int) : Option (Int × Bool) := if a0 = 1 then ((customsref04_Deadline.f k l2 a1 0 90 0).bind fun bt1117 => (some (bt1117.1, (bt1117.2 == 0)))) else (if a0 = 2 then ((customsref04_Deadline.f k l2 a1 0 8 0).bind fun bt1119 => (some (bt1119.1, (bt1119.2 == 0)))) else (if a0 = 4 then ((customsref04_Deadline.f k l2 a1 6 0 0).bind fun bt1121 => (some (bt1121.1, (bt1121.2 == 0)))) else (if a0 = 5 then ((customsref04_Deadline.f k l2 a1 24 0 0).bind fun bt1123 => (some (bt1123.1, (bt1123.2 == 0)))) else (if a0 = 7 then ((customsref04_Deadline.f k l2 a1 12 0 0).bind fun bt1125 => (some (bt1125.1, (bt1125.2 == 0)))) else (some (0, false))))))
set_option maxHeartbeats 8000000 in
set_option maxRecDepth 100000 in
theorem customsref24_Deadline.calls (k : Nat) (a0 : Int) (a1 : Int) (A2 : Option Addr) (c2 : Nat) (l2 : List Int) (r1 : Int) (r2 : Bool) (w : World) (hr2 : Kd.C (Kd.int .i64) w A2 l2.length l2) (hc2 : l2.length ≤ c2) (h : customsref24_Deadline.f k a0 a1 l2 = some (r1, r2)) :
  Calls Tryd.prog 62 #[.int .i64 a0, .int .i64 a1, .slice A2 l2.length c2] w fun e w' => e = .returned (.tuple #[.int .i64 r1, .bool r2]) ∧ Below w.heap.size w w' := by
 have hu95 := Tryd.underlying95
 have HR2 := Aside0.mk hr2
 have HC2 := Aside0.mk hc2
 clear hr2 hc2
 have HB := Aside0.mk (Below.refl w.heap.size w)
 have H : (if a0 = 1 then ((customsref04_Deadline.f k l2 a1 0 90 0).bind fun bt1117 => (some (bt1117.1, (bt1117.2 == 0)))) else (if a0 = 2 then ((customsref04_Deadline.f k l2 a1 0 8 0).bind fun bt1119 => (some (bt1119.1, (bt1119.2 == 0)))) else (if a0 = 4 then ((customsref04_Deadline.f k l2 a1 6 0 0).bind fun bt1121 => (some (bt1121.1, (bt1121.2 == 0)))) else (if a0 = 5 then ((customsref04_Deadline.f k l2 a1 24 0 0).bind fun bt1123 => (some (bt1123.1, (bt1123.2 == 0)))) else (if a0 = 7 then ((customsref04_Deadline.f k l2 a1 12 0 0).bind fun bt1125 => (some (bt1125.1, (bt1125.2 == 0)))) else (some (0, false))))))) = some (r1, r2) := h
 clear h
 by_cases c4 : a0 = 1
 ·
  rw [if_pos c4] at H
  have c4b0 : (a0 == 1) = true := beq_iff_eq.mpr c4
  have c4b1 : (a0 != 1) = false := bne_eq_false_iff_eq.mpr c4
  clear c4
  replace H := Option.bind_eq_some_iff.mp H
  obtain ⟨⟨t1117, t1118⟩, A50, H⟩ := H
  replace H : (some (t1117, (t1118 == 0))) = some (r1, r2) := H
  have A5 := Aside0.mk A50
  clear A50
  simp only [Option.some.injEq, Prod.mk.injEq] at H
  obtain ⟨rfl, rfl⟩ := H
  go_enter Tryd.func62, Tryd.ntmps62
  go_wp2_with (first | ((with_reducible refine gate_dst (N := 8) rfl ?_); refine box_event ?hg (N := 8) ?hd (cs := #[.int .i64 0, .int .i64 0, .int .i64 0]) (t := 95) ?hr ?_; (case hd => rfl); (case hg => rfl); (case hr => first | (go_simp; done) | (go_simp; rfl)); intro gb1116 hg w6 hbox hb; have n0_ := Aside0.mk (below_step HB.out hb); have n1_ := Aside0.mk (hbox); have n2_ := Aside0.mk ((by rw [hg]; exact (below_size HB.out) : w.heap.size ≤ gb1116)); have n3_ := Aside0.mk ((by rw [hg]; exact (below_size HB.out) : w.heap.size ≤ gb1116)); clear HB; have HB := n0_; have BK1116 := n1_; have GW1116 := n2_; have GE1116 := n3_; clear n0_ n1_ n2_ n3_; clear hb hbox hg; have hcz7_0 : w6.cell? ⟨gb1116, 0, none⟩ = some (.int .i64 0) := (blk_cell BK1116.out 0).trans rfl; have hcz7_1 : w6.cell? ⟨gb1116, 1, none⟩ = some (.int .i64 0) := (blk_cell BK1116.out 1).trans rfl; have hcz7_2 : w6.cell? ⟨gb1116, 2, none⟩ = some (.int .i64 0) := (blk_cell BK1116.out 2).trans rfl; have hfz7_0 := blk_frozen BK1116.out 0; have hfz7_1 := blk_frozen BK1116.out 1; have hfz7_2 := blk_frozen BK1116.out 2; (try (have hpz7_1 : ∀ v0_ v1_ : Value, ((w6.setCell ⟨gb1116, 0, none⟩ v0_).setCell ⟨gb1116, 1, none⟩ v1_).cell? ⟨gb1116, 1, none⟩ = some v1_ := by (intros; go_simp))); (try (have hpz7_2 : ∀ v0_ v1_ v2_ : Value, (((w6.setCell ⟨gb1116, 0, none⟩ v0_).setCell ⟨gb1116, 1, none⟩ v1_).setCell ⟨gb1116, 2, none⟩ v2_).cell? ⟨gb1116, 2, none⟩ = some v2_ := by (intros; go_simp)))) | ((with_reducible refine gate_callee (f := 72) rfl ?_); refine goesL_ (some 32) rfl rfl Tryd.func72 (by kernel_rfl) rfl #[.slice A2 l2.length c2, .int .i64 a1, .agg #[.int .i64 0, .int .i64 90, .int .i64 0]] rfl (by (try simp only [List.map_toArray, List.map_cons, List.map_nil]); first | done | rfl | (simp only [List.length_drop, List.length_take]; rfl)) ?_; (with_reducible refine (customsref04_Deadline.calls k _ _ l2 a1 0 90 0 t1117 t1118 _ ?side1 ?side2 A5.out).mono ?_); (case side1 => exact Kd.C_below HR2.out (by repeat (first | (with_reducible first | exact HB.out | apply below_alloc | apply pw_below_drewN | apply below_drew1 | refine below_set ?_ GE1116.out) | exact HB.out))); (case side2 => exact HC2.out); rintro e w8 ⟨rfl, hb⟩; refine ⟨_, rfl, ?_⟩; have n0_ := Aside0.mk (blk_below (g := gb1116) (o := .cells #[.int .i64 0, .int .i64 90, .int .i64 0] 95 (0, 0)) (by (with_reducible repeat (first | refine blk_drewN ?_ _ | refine blk_drew ?_ | refine blk_alloc ?_ _)); refine blk_put (cs := #[.int .i64 0, .int .i64 0, .int .i64 0]) ?_ 1 _ rfl; (with_reducible repeat (first | refine blk_drewN ?_ _ | refine blk_drew ?_ | refine blk_alloc ?_ _)); refine blk_put (cs := #[.int .i64 0, .int .i64 0, .int .i64 0]) ?_ 2 _ rfl; (with_reducible repeat (first | refine blk_drewN ?_ _ | refine blk_drew ?_ | refine blk_alloc ?_ _)); refine blk_put (cs := #[.int .i64 0, .int .i64 0, .int .i64 0]) ?_ 1 _ rfl; (with_reducible repeat (first | refine blk_drewN ?_ _ | refine blk_drew ?_ | refine blk_alloc ?_ _)); refine blk_put (cs := #[.int .i64 0, .int .i64 0, .int .i64 0]) ?_ 0 _ rfl; (with_reducible repeat (first | refine blk_drewN ?_ _ | refine blk_drew ?_ | refine blk_alloc ?_ _)); exact BK1116.out) hb); have n1_ := Aside0.mk (below_step (by repeat (first | (with_reducible first | exact HB.out | apply below_alloc | apply pw_below_drewN | apply below_drew1 | refine below_set ?_ GE1116.out) | exact HB.out)) hb); clear BK1116; clear HB; have BK1116 := n0_; have HB := n1_; clear n0_ n1_; (try clear hb); (try clear hb2); (try clear hk); (try clear hi)))
  go_ret2
  exact ⟨by first | rfl | (simp [errW_none, errW_some] <;> rfl) | (simp [*, errW_none, errW_some] <;> rfl), by repeat (first | (with_reducible first | exact HB.out | apply below_alloc | apply pw_below_drewN | apply below_drew1 | refine below_set ?_ GE1116.out) | exact HB.out)⟩
 ·
  rw [if_neg c4] at H
  have c4b0 : (a0 == 1) = false := beq_eq_false_iff_ne.mpr c4
  have c4b1 : (a0 != 1) = true := bne_iff_ne.mpr c4
  by_cases c9 : a0 = 2
  ·
   rw [if_pos c9] at H
   have c9b0 : (a0 == 2) = true := beq_iff_eq.mpr c9
   have c9b1 : (a0 != 2) = false := bne_eq_false_iff_eq.mpr c9
   clear c9
   replace H := Option.bind_eq_some_iff.mp H
   obtain ⟨⟨t1119, t1120⟩, A100, H⟩ := H
   replace H : (some (t1119, (t1120 == 0))) = some (r1, r2) := H
   have A10 := Aside0.mk A100
   clear A100
   simp only [Option.some.injEq, Prod.mk.injEq] at H
   obtain ⟨rfl, rfl⟩ := H
   go_enter Tryd.func62, Tryd.ntmps62
   go_wp2_with (first | ((with_reducible refine gate_dst (N := 8) rfl ?_); refine box_event ?hg (N := 8) ?hd (cs := #[.int .i64 0, .int .i64 0, .int .i64 0]) (t := 95) ?hr ?_; (case hd => rfl); (case hg => rfl); (case hr => first | (go_simp; done) | (go_simp; rfl)); intro gb1116 hg w11 hbox hb; have n0_ := Aside0.mk (below_step HB.out hb); have n1_ := Aside0.mk (hbox); have n2_ := Aside0.mk ((by rw [hg]; exact (below_size HB.out) : w.heap.size ≤ gb1116)); have n3_ := Aside0.mk ((by rw [hg]; exact (below_size HB.out) : w.heap.size ≤ gb1116)); clear HB; have HB := n0_; have BK1116 := n1_; have GW1116 := n2_; have GE1116 := n3_; clear n0_ n1_ n2_ n3_; clear hb hbox hg; have hcz12_0 : w11.cell? ⟨gb1116, 0, none⟩ = some (.int .i64 0) := (blk_cell BK1116.out 0).trans rfl; have hcz12_1 : w11.cell? ⟨gb1116, 1, none⟩ = some (.int .i64 0) := (blk_cell BK1116.out 1).trans rfl; have hcz12_2 : w11.cell? ⟨gb1116, 2, none⟩ = some (.int .i64 0) := (blk_cell BK1116.out 2).trans rfl; have hfz12_0 := blk_frozen BK1116.out 0; have hfz12_1 := blk_frozen BK1116.out 1; have hfz12_2 := blk_frozen BK1116.out 2; (try (have hpz12_1 : ∀ v0_ v1_ : Value, ((w11.setCell ⟨gb1116, 0, none⟩ v0_).setCell ⟨gb1116, 1, none⟩ v1_).cell? ⟨gb1116, 1, none⟩ = some v1_ := by (intros; go_simp))); (try (have hpz12_2 : ∀ v0_ v1_ v2_ : Value, (((w11.setCell ⟨gb1116, 0, none⟩ v0_).setCell ⟨gb1116, 1, none⟩ v1_).setCell ⟨gb1116, 2, none⟩ v2_).cell? ⟨gb1116, 2, none⟩ = some v2_ := by (intros; go_simp)))) | ((with_reducible refine gate_callee (f := 72) rfl ?_); refine goesL_ (some 32) rfl rfl Tryd.func72 (by kernel_rfl) rfl #[.slice A2 l2.length c2, .int .i64 a1, .agg #[.int .i64 0, .int .i64 8, .int .i64 0]] rfl (by (try simp only [List.map_toArray, List.map_cons, List.map_nil]); first | done | rfl | (simp only [List.length_drop, List.length_take]; rfl)) ?_; (with_reducible refine (customsref04_Deadline.calls k _ _ l2 a1 0 8 0 t1119 t1120 _ ?side1 ?side2 A10.out).mono ?_); (case side1 => exact Kd.C_below HR2.out (by repeat (first | (with_reducible first | exact HB.out | apply below_alloc | apply pw_below_drewN | apply below_drew1 | refine below_set ?_ GE1116.out) | exact HB.out))); (case side2 => exact HC2.out); rintro e w13 ⟨rfl, hb⟩; refine ⟨_, rfl, ?_⟩; have n0_ := Aside0.mk (blk_below (g := gb1116) (o := .cells #[.int .i64 0, .int .i64 8, .int .i64 0] 95 (0, 0)) (by (with_reducible repeat (first | refine blk_drewN ?_ _ | refine blk_drew ?_ | refine blk_alloc ?_ _)); refine blk_put (cs := #[.int .i64 0, .int .i64 0, .int .i64 0]) ?_ 1 _ rfl; (with_reducible repeat (first | refine blk_drewN ?_ _ | refine blk_drew ?_ | refine blk_alloc ?_ _)); refine blk_put (cs := #[.int .i64 0, .int .i64 0, .int .i64 0]) ?_ 2 _ rfl; (with_reducible repeat (first | refine blk_drewN ?_ _ | refine blk_drew ?_ | refine blk_alloc ?_ _)); refine blk_put (cs := #[.int .i64 0, .int .i64 0, .int .i64 0]) ?_ 1 _ rfl; (with_reducible repeat (first | refine blk_drewN ?_ _ | refine blk_drew ?_ | refine blk_alloc ?_ _)); refine blk_put (cs := #[.int .i64 0, .int .i64 0, .int .i64 0]) ?_ 0 _ rfl; (with_reducible repeat (first | refine blk_drewN ?_ _ | refine blk_drew ?_ | refine blk_alloc ?_ _)); exact BK1116.out) hb); have n1_ := Aside0.mk (below_step (by repeat (first | (with_reducible first | exact HB.out | apply below_alloc | apply pw_below_drewN | apply below_drew1 | refine below_set ?_ GE1116.out) | exact HB.out)) hb); clear BK1116; clear HB; have BK1116 := n0_; have HB := n1_; clear n0_ n1_; (try clear hb); (try clear hb2); (try clear hk); (try clear hi)))
   go_ret2
   exact ⟨by first | rfl | (simp [errW_none, errW_some] <;> rfl) | (simp [*, errW_none, errW_some] <;> rfl), by repeat (first | (with_reducible first | exact HB.out | apply below_alloc | apply pw_below_drewN | apply below_drew1 | refine below_set ?_ GE1116.out) | exact HB.out)⟩
  ·
   rw [if_neg c9] at H
   have c9b0 : (a0 == 2) = false := beq_eq_false_iff_ne.mpr c9
   have c9b1 : (a0 != 2) = true := bne_iff_ne.mpr c9
   by_cases c14 : a0 = 4
   ·
    rw [if_pos c14] at H
    have c14b0 : (a0 == 4) = true := beq_iff_eq.mpr c14
    have c14b1 : (a0 != 4) = false := bne_eq_false_iff_eq.mpr c14
    clear c14
    replace H := Option.bind_eq_some_iff.mp H
    obtain ⟨⟨t1121, t1122⟩, A150, H⟩ := H
    replace H : (some (t1121, (t1122 == 0))) = some (r1, r2) := H
    have A15 := Aside0.mk A150
    clear A150
    simp only [Option.some.injEq, Prod.mk.injEq] at H
    obtain ⟨rfl, rfl⟩ := H
    go_enter Tryd.func62, Tryd.ntmps62
    go_wp2_with (first | ((with_reducible refine gate_dst (N := 8) rfl ?_); refine box_event ?hg (N := 8) ?hd (cs := #[.int .i64 0, .int .i64 0, .int .i64 0]) (t := 95) ?hr ?_; (case hd => rfl); (case hg => rfl); (case hr => first | (go_simp; done) | (go_simp; rfl)); intro gb1116 hg w16 hbox hb; have n0_ := Aside0.mk (below_step HB.out hb); have n1_ := Aside0.mk (hbox); have n2_ := Aside0.mk ((by rw [hg]; exact (below_size HB.out) : w.heap.size ≤ gb1116)); have n3_ := Aside0.mk ((by rw [hg]; exact (below_size HB.out) : w.heap.size ≤ gb1116)); clear HB; have HB := n0_; have BK1116 := n1_; have GW1116 := n2_; have GE1116 := n3_; clear n0_ n1_ n2_ n3_; clear hb hbox hg; have hcz17_0 : w16.cell? ⟨gb1116, 0, none⟩ = some (.int .i64 0) := (blk_cell BK1116.out 0).trans rfl; have hcz17_1 : w16.cell? ⟨gb1116, 1, none⟩ = some (.int .i64 0) := (blk_cell BK1116.out 1).trans rfl; have hcz17_2 : w16.cell? ⟨gb1116, 2, none⟩ = some (.int .i64 0) := (blk_cell BK1116.out 2).trans rfl; have hfz17_0 := blk_frozen BK1116.out 0; have hfz17_1 := blk_frozen BK1116.out 1; have hfz17_2 := blk_frozen BK1116.out 2; (try (have hpz17_1 : ∀ v0_ v1_ : Value, ((w16.setCell ⟨gb1116, 0, none⟩ v0_).setCell ⟨gb1116, 1, none⟩ v1_).cell? ⟨gb1116, 1, none⟩ = some v1_ := by (intros; go_simp))); (try (have hpz17_2 : ∀ v0_ v1_ v2_ : Value, (((w16.setCell ⟨gb1116, 0, none⟩ v0_).setCell ⟨gb1116, 1, none⟩ v1_).setCell ⟨gb1116, 2, none⟩ v2_).cell? ⟨gb1116, 2, none⟩ = some v2_ := by (intros; go_simp)))) | ((with_reducible refine gate_callee (f := 72) rfl ?_); refine goesL_ (some 32) rfl rfl Tryd.func72 (by kernel_rfl) rfl #[.slice A2 l2.length c2, .int .i64 a1, .agg #[.int .i64 6, .int .i64 0, .int .i64 0]] rfl (by (try simp only [List.map_toArray, List.map_cons, List.map_nil]); first | done | rfl | (simp only [List.length_drop, List.length_take]; rfl)) ?_; (with_reducible refine (customsref04_Deadline.calls k _ _ l2 a1 6 0 0 t1121 t1122 _ ?side1 ?side2 A15.out).mono ?_); (case side1 => exact Kd.C_below HR2.out (by repeat (first | (with_reducible first | exact HB.out | apply below_alloc | apply pw_below_drewN | apply below_drew1 | refine below_set ?_ GE1116.out) | exact HB.out))); (case side2 => exact HC2.out); rintro e w18 ⟨rfl, hb⟩; refine ⟨_, rfl, ?_⟩; have n0_ := Aside0.mk (blk_below (g := gb1116) (o := .cells #[.int .i64 6, .int .i64 0, .int .i64 0] 95 (0, 0)) (by (with_reducible repeat (first | refine blk_drewN ?_ _ | refine blk_drew ?_ | refine blk_alloc ?_ _)); refine blk_put (cs := #[.int .i64 0, .int .i64 0, .int .i64 0]) ?_ 0 _ rfl; (with_reducible repeat (first | refine blk_drewN ?_ _ | refine blk_drew ?_ | refine blk_alloc ?_ _)); refine blk_put (cs := #[.int .i64 0, .int .i64 0, .int .i64 0]) ?_ 2 _ rfl; (with_reducible repeat (first | refine blk_drewN ?_ _ | refine blk_drew ?_ | refine blk_alloc ?_ _)); refine blk_put (cs := #[.int .i64 0, .int .i64 0, .int .i64 0]) ?_ 1 _ rfl; (with_reducible repeat (first | refine blk_drewN ?_ _ | refine blk_drew ?_ | refine blk_alloc ?_ _)); refine blk_put (cs := #[.int .i64 0, .int .i64 0, .int .i64 0]) ?_ 0 _ rfl; (with_reducible repeat (first | refine blk_drewN ?_ _ | refine blk_drew ?_ | refine blk_alloc ?_ _)); exact BK1116.out) hb); have n1_ := Aside0.mk (below_step (by repeat (first | (with_reducible first | exact HB.out | apply below_alloc | apply pw_below_drewN | apply below_drew1 | refine below_set ?_ GE1116.out) | exact HB.out)) hb); clear BK1116; clear HB; have BK1116 := n0_; have HB := n1_; clear n0_ n1_; (try clear hb); (try clear hb2); (try clear hk); (try clear hi)))
    go_ret2
    exact ⟨by first | rfl | (simp [errW_none, errW_some] <;> rfl) | (simp [*, errW_none, errW_some] <;> rfl), by repeat (first | (with_reducible first | exact HB.out | apply below_alloc | apply pw_below_drewN | apply below_drew1 | refine below_set ?_ GE1116.out) | exact HB.out)⟩
   ·
    rw [if_neg c14] at H
    have c14b0 : (a0 == 4) = false := beq_eq_false_iff_ne.mpr c14
    have c14b1 : (a0 != 4) = true := bne_iff_ne.mpr c14
    by_cases c19 : a0 = 5
    ·
     rw [if_pos c19] at H
     have c19b0 : (a0 == 5) = true := beq_iff_eq.mpr c19
     have c19b1 : (a0 != 5) = false := bne_eq_false_iff_eq.mpr c19
     clear c19
     replace H := Option.bind_eq_some_iff.mp H
     obtain ⟨⟨t1123, t1124⟩, A200, H⟩ := H
     replace H : (some (t1123, (t1124 == 0))) = some (r1, r2) := H
     have A20 := Aside0.mk A200
     clear A200
     simp only [Option.some.injEq, Prod.mk.injEq] at H
     obtain ⟨rfl, rfl⟩ := H
     go_enter Tryd.func62, Tryd.ntmps62
     go_wp2_with (first | ((with_reducible refine gate_dst (N := 8) rfl ?_); refine box_event ?hg (N := 8) ?hd (cs := #[.int .i64 0, .int .i64 0, .int .i64 0]) (t := 95) ?hr ?_; (case hd => rfl); (case hg => rfl); (case hr => first | (go_simp; done) | (go_simp; rfl)); intro gb1116 hg w21 hbox hb; have n0_ := Aside0.mk (below_step HB.out hb); have n1_ := Aside0.mk (hbox); have n2_ := Aside0.mk ((by rw [hg]; exact (below_size HB.out) : w.heap.size ≤ gb1116)); have n3_ := Aside0.mk ((by rw [hg]; exact (below_size HB.out) : w.heap.size ≤ gb1116)); clear HB; have HB := n0_; have BK1116 := n1_; have GW1116 := n2_; have GE1116 := n3_; clear n0_ n1_ n2_ n3_; clear hb hbox hg; have hcz22_0 : w21.cell? ⟨gb1116, 0, none⟩ = some (.int .i64 0) := (blk_cell BK1116.out 0).trans rfl; have hcz22_1 : w21.cell? ⟨gb1116, 1, none⟩ = some (.int .i64 0) := (blk_cell BK1116.out 1).trans rfl; have hcz22_2 : w21.cell? ⟨gb1116, 2, none⟩ = some (.int .i64 0) := (blk_cell BK1116.out 2).trans rfl; have hfz22_0 := blk_frozen BK1116.out 0; have hfz22_1 := blk_frozen BK1116.out 1; have hfz22_2 := blk_frozen BK1116.out 2; (try (have hpz22_1 : ∀ v0_ v1_ : Value, ((w21.setCell ⟨gb1116, 0, none⟩ v0_).setCell ⟨gb1116, 1, none⟩ v1_).cell? ⟨gb1116, 1, none⟩ = some v1_ := by (intros; go_simp))); (try (have hpz22_2 : ∀ v0_ v1_ v2_ : Value, (((w21.setCell ⟨gb1116, 0, none⟩ v0_).setCell ⟨gb1116, 1, none⟩ v1_).setCell ⟨gb1116, 2, none⟩ v2_).cell? ⟨gb1116, 2, none⟩ = some v2_ := by (intros; go_simp)))) | ((with_reducible refine gate_callee (f := 72) rfl ?_); refine goesL_ (some 32) rfl rfl Tryd.func72 (by kernel_rfl) rfl #[.slice A2 l2.length c2, .int .i64 a1, .agg #[.int .i64 24, .int .i64 0, .int .i64 0]] rfl (by (try simp only [List.map_toArray, List.map_cons, List.map_nil]); first | done | rfl | (simp only [List.length_drop, List.length_take]; rfl)) ?_; (with_reducible refine (customsref04_Deadline.calls k _ _ l2 a1 24 0 0 t1123 t1124 _ ?side1 ?side2 A20.out).mono ?_); (case side1 => exact Kd.C_below HR2.out (by repeat (first | (with_reducible first | exact HB.out | apply below_alloc | apply pw_below_drewN | apply below_drew1 | refine below_set ?_ GE1116.out) | exact HB.out))); (case side2 => exact HC2.out); rintro e w23 ⟨rfl, hb⟩; refine ⟨_, rfl, ?_⟩; have n0_ := Aside0.mk (blk_below (g := gb1116) (o := .cells #[.int .i64 24, .int .i64 0, .int .i64 0] 95 (0, 0)) (by (with_reducible repeat (first | refine blk_drewN ?_ _ | refine blk_drew ?_ | refine blk_alloc ?_ _)); refine blk_put (cs := #[.int .i64 0, .int .i64 0, .int .i64 0]) ?_ 0 _ rfl; (with_reducible repeat (first | refine blk_drewN ?_ _ | refine blk_drew ?_ | refine blk_alloc ?_ _)); refine blk_put (cs := #[.int .i64 0, .int .i64 0, .int .i64 0]) ?_ 2 _ rfl; (with_reducible repeat (first | refine blk_drewN ?_ _ | refine blk_drew ?_ | refine blk_alloc ?_ _)); refine blk_put (cs := #[.int .i64 0, .int .i64 0, .int .i64 0]) ?_ 1 _ rfl; (with_reducible repeat (first | refine blk_drewN ?_ _ | refine blk_drew ?_ | refine blk_alloc ?_ _)); refine blk_put (cs := #[.int .i64 0, .int .i64 0, .int .i64 0]) ?_ 0 _ rfl; (with_reducible repeat (first | refine blk_drewN ?_ _ | refine blk_drew ?_ | refine blk_alloc ?_ _)); exact BK1116.out) hb); have n1_ := Aside0.mk (below_step (by repeat (first | (with_reducible first | exact HB.out | apply below_alloc | apply pw_below_drewN | apply below_drew1 | refine below_set ?_ GE1116.out) | exact HB.out)) hb); clear BK1116; clear HB; have BK1116 := n0_; have HB := n1_; clear n0_ n1_; (try clear hb); (try clear hb2); (try clear hk); (try clear hi)))
     go_ret2
     exact ⟨by first | rfl | (simp [errW_none, errW_some] <;> rfl) | (simp [*, errW_none, errW_some] <;> rfl), by repeat (first | (with_reducible first | exact HB.out | apply below_alloc | apply pw_below_drewN | apply below_drew1 | refine below_set ?_ GE1116.out) | exact HB.out)⟩
    ·
     rw [if_neg c19] at H
     have c19b0 : (a0 == 5) = false := beq_eq_false_iff_ne.mpr c19
     have c19b1 : (a0 != 5) = true := bne_iff_ne.mpr c19
     by_cases c24 : a0 = 7
     ·
      rw [if_pos c24] at H
      have c24b0 : (a0 == 7) = true := beq_iff_eq.mpr c24
      have c24b1 : (a0 != 7) = false := bne_eq_false_iff_eq.mpr c24
      clear c24
      replace H := Option.bind_eq_some_iff.mp H
      obtain ⟨⟨t1125, t1126⟩, A250, H⟩ := H
      replace H : (some (t1125, (t1126 == 0))) = some (r1, r2) := H
      have A25 := Aside0.mk A250
      clear A250
      simp only [Option.some.injEq, Prod.mk.injEq] at H
      obtain ⟨rfl, rfl⟩ := H
      go_enter Tryd.func62, Tryd.ntmps62
      go_wp2_with (first | ((with_reducible refine gate_dst (N := 8) rfl ?_); refine box_event ?hg (N := 8) ?hd (cs := #[.int .i64 0, .int .i64 0, .int .i64 0]) (t := 95) ?hr ?_; (case hd => rfl); (case hg => rfl); (case hr => first | (go_simp; done) | (go_simp; rfl)); intro gb1116 hg w26 hbox hb; have n0_ := Aside0.mk (below_step HB.out hb); have n1_ := Aside0.mk (hbox); have n2_ := Aside0.mk ((by rw [hg]; exact (below_size HB.out) : w.heap.size ≤ gb1116)); have n3_ := Aside0.mk ((by rw [hg]; exact (below_size HB.out) : w.heap.size ≤ gb1116)); clear HB; have HB := n0_; have BK1116 := n1_; have GW1116 := n2_; have GE1116 := n3_; clear n0_ n1_ n2_ n3_; clear hb hbox hg; have hcz27_0 : w26.cell? ⟨gb1116, 0, none⟩ = some (.int .i64 0) := (blk_cell BK1116.out 0).trans rfl; have hcz27_1 : w26.cell? ⟨gb1116, 1, none⟩ = some (.int .i64 0) := (blk_cell BK1116.out 1).trans rfl; have hcz27_2 : w26.cell? ⟨gb1116, 2, none⟩ = some (.int .i64 0) := (blk_cell BK1116.out 2).trans rfl; have hfz27_0 := blk_frozen BK1116.out 0; have hfz27_1 := blk_frozen BK1116.out 1; have hfz27_2 := blk_frozen BK1116.out 2; (try (have hpz27_1 : ∀ v0_ v1_ : Value, ((w26.setCell ⟨gb1116, 0, none⟩ v0_).setCell ⟨gb1116, 1, none⟩ v1_).cell? ⟨gb1116, 1, none⟩ = some v1_ := by (intros; go_simp))); (try (have hpz27_2 : ∀ v0_ v1_ v2_ : Value, (((w26.setCell ⟨gb1116, 0, none⟩ v0_).setCell ⟨gb1116, 1, none⟩ v1_).setCell ⟨gb1116, 2, none⟩ v2_).cell? ⟨gb1116, 2, none⟩ = some v2_ := by (intros; go_simp)))) | ((with_reducible refine gate_callee (f := 72) rfl ?_); refine goesL_ (some 32) rfl rfl Tryd.func72 (by kernel_rfl) rfl #[.slice A2 l2.length c2, .int .i64 a1, .agg #[.int .i64 12, .int .i64 0, .int .i64 0]] rfl (by (try simp only [List.map_toArray, List.map_cons, List.map_nil]); first | done | rfl | (simp only [List.length_drop, List.length_take]; rfl)) ?_; (with_reducible refine (customsref04_Deadline.calls k _ _ l2 a1 12 0 0 t1125 t1126 _ ?side1 ?side2 A25.out).mono ?_); (case side1 => exact Kd.C_below HR2.out (by repeat (first | (with_reducible first | exact HB.out | apply below_alloc | apply pw_below_drewN | apply below_drew1 | refine below_set ?_ GE1116.out) | exact HB.out))); (case side2 => exact HC2.out); rintro e w28 ⟨rfl, hb⟩; refine ⟨_, rfl, ?_⟩; have n0_ := Aside0.mk (blk_below (g := gb1116) (o := .cells #[.int .i64 12, .int .i64 0, .int .i64 0] 95 (0, 0)) (by (with_reducible repeat (first | refine blk_drewN ?_ _ | refine blk_drew ?_ | refine blk_alloc ?_ _)); refine blk_put (cs := #[.int .i64 0, .int .i64 0, .int .i64 0]) ?_ 0 _ rfl; (with_reducible repeat (first | refine blk_drewN ?_ _ | refine blk_drew ?_ | refine blk_alloc ?_ _)); refine blk_put (cs := #[.int .i64 0, .int .i64 0, .int .i64 0]) ?_ 2 _ rfl; (with_reducible repeat (first | refine blk_drewN ?_ _ | refine blk_drew ?_ | refine blk_alloc ?_ _)); refine blk_put (cs := #[.int .i64 0, .int .i64 0, .int .i64 0]) ?_ 1 _ rfl; (with_reducible repeat (first | refine blk_drewN ?_ _ | refine blk_drew ?_ | refine blk_alloc ?_ _)); refine blk_put (cs := #[.int .i64 0, .int .i64 0, .int .i64 0]) ?_ 0 _ rfl; (with_reducible repeat (first | refine blk_drewN ?_ _ | refine blk_drew ?_ | refine blk_alloc ?_ _)); exact BK1116.out) hb); have n1_ := Aside0.mk (below_step (by repeat (first | (with_reducible first | exact HB.out | apply below_alloc | apply pw_below_drewN | apply below_drew1 | refine below_set ?_ GE1116.out) | exact HB.out)) hb); clear BK1116; clear HB; have BK1116 := n0_; have HB := n1_; clear n0_ n1_; (try clear hb); (try clear hb2); (try clear hk); (try clear hi)))
      go_ret2
      exact ⟨by first | rfl | (simp [errW_none, errW_some] <;> rfl) | (simp [*, errW_none, errW_some] <;> rfl), by repeat (first | (with_reducible first | exact HB.out | apply below_alloc | apply pw_below_drewN | apply below_drew1 | refine below_set ?_ GE1116.out) | exact HB.out)⟩
     ·
      rw [if_neg c24] at H
      have c24b0 : (a0 == 7) = false := beq_eq_false_iff_ne.mpr c24
      have c24b1 : (a0 != 7) = true := bne_iff_ne.mpr c24
      simp only [Option.some.injEq, Prod.mk.injEq] at H
      obtain ⟨rfl, rfl⟩ := H
      go_enter Tryd.func62, Tryd.ntmps62
      go_wp2_with (first | ((with_reducible refine gate_dst (N := 8) rfl ?_); refine box_event ?hg (N := 8) ?hd (cs := #[.int .i64 0, .int .i64 0, .int .i64 0]) (t := 95) ?hr ?_; (case hd => rfl); (case hg => rfl); (case hr => first | (go_simp; done) | (go_simp; rfl)); intro gb1116 hg w29 hbox hb; have n0_ := Aside0.mk (below_step HB.out hb); have n1_ := Aside0.mk (hbox); have n2_ := Aside0.mk ((by rw [hg]; exact (below_size HB.out) : w.heap.size ≤ gb1116)); have n3_ := Aside0.mk ((by rw [hg]; exact (below_size HB.out) : w.heap.size ≤ gb1116)); clear HB; have HB := n0_; have BK1116 := n1_; have GW1116 := n2_; have GE1116 := n3_; clear n0_ n1_ n2_ n3_; clear hb hbox hg; have hcz30_0 : w29.cell? ⟨gb1116, 0, none⟩ = some (.int .i64 0) := (blk_cell BK1116.out 0).trans rfl; have hcz30_1 : w29.cell? ⟨gb1116, 1, none⟩ = some (.int .i64 0) := (blk_cell BK1116.out 1).trans rfl; have hcz30_2 : w29.cell? ⟨gb1116, 2, none⟩ = some (.int .i64 0) := (blk_cell BK1116.out 2).trans rfl; have hfz30_0 := blk_frozen BK1116.out 0; have hfz30_1 := blk_frozen BK1116.out 1; have hfz30_2 := blk_frozen BK1116.out 2; (try (have hpz30_1 : ∀ v0_ v1_ : Value, ((w29.setCell ⟨gb1116, 0, none⟩ v0_).setCell ⟨gb1116, 1, none⟩ v1_).cell? ⟨gb1116, 1, none⟩ = some v1_ := by (intros; go_simp))); (try (have hpz30_2 : ∀ v0_ v1_ v2_ : Value, (((w29.setCell ⟨gb1116, 0, none⟩ v0_).setCell ⟨gb1116, 1, none⟩ v1_).setCell ⟨gb1116, 2, none⟩ v2_).cell? ⟨gb1116, 2, none⟩ = some v2_ := by (intros; go_simp)))))
      go_ret2
      exact ⟨by first | rfl | (simp [errW_none, errW_some] <;> rfl) | (simp [*, errW_none, errW_some] <;> rfl), by repeat (first | (with_reducible first | exact HB.out | apply below_alloc | apply pw_below_drewN | apply below_drew1 | refine below_set ?_ GE1116.out) | exact HB.out)⟩

def customsref33_Overdue.f (k : Nat) (a0_0 : Int) (a0_1 : Int) (a0_2 : Int) (a0_3 : Int) (a0_4 : Int) (a0_5 : Int) (a0_6 : Int) (a0_7 : Int) (a0_8 : Int) (a0_9 : Int) (l0_10 : List Int) (a1 : Int) (l2 : List Int) : Option (Bool) := (customsref24_Deadline.f k 2 a0_4 l2).bind fun bt1128 => (if a0_5 = 3 then (if bt1128.2 = true then (some (decide (a1 > bt1128.1))) else (some false)) else (some false))
set_option maxHeartbeats 8000000 in
set_option maxRecDepth 100000 in
theorem customsref33_Overdue.calls (k : Nat) (a0_0 : Int) (a0_1 : Int) (a0_2 : Int) (a0_3 : Int) (a0_4 : Int) (a0_5 : Int) (a0_6 : Int) (a0_7 : Int) (a0_8 : Int) (a0_9 : Int) (A0_10 : Option Addr) (c0_10 : Nat) (l0_10 : List Int) (a1 : Int) (A2 : Option Addr) (c2 : Nat) (l2 : List Int) (r : Bool) (w : World) (hr0_10 : Kd.C (Kd.int .i64) w A0_10 l0_10.length l0_10) (hc0_10 : l0_10.length ≤ c0_10) (hr2 : Kd.C (Kd.int .i64) w A2 l2.length l2) (hc2 : l2.length ≤ c2) (h : customsref33_Overdue.f k a0_0 a0_1 a0_2 a0_3 a0_4 a0_5 a0_6 a0_7 a0_8 a0_9 l0_10 a1 l2 = some r) :
  Calls Tryd.prog 37 #[.agg #[.int .i64 a0_0, .int .i64 a0_1, .int .i64 a0_2, .int .i64 a0_3, .int .i64 a0_4, .int .i64 a0_5, .int .i64 a0_6, .int .i64 a0_7, .int .i64 a0_8, .int .i64 a0_9, .slice A0_10 l0_10.length c0_10], .int .i64 a1, .slice A2 l2.length c2] w fun e w' => e = .returned (.bool r) ∧ Below w.heap.size w w' := by
 have hu38 := Tryd.underlying38
 have HR0_10 := Aside0.mk hr0_10
 have HC0_10 := Aside0.mk hc0_10
 clear hr0_10 hc0_10
 have HR2 := Aside0.mk hr2
 have HC2 := Aside0.mk hc2
 clear hr2 hc2
 have HB := Aside0.mk (Below.refl w.heap.size w)
 have H : ((customsref24_Deadline.f k 2 a0_4 l2).bind fun bt1128 => (if a0_5 = 3 then (if bt1128.2 = true then (some (decide (a1 > bt1128.1))) else (some false)) else (some false))) = some r := h
 clear h
 replace H := Option.bind_eq_some_iff.mp H
 obtain ⟨⟨t1128, t1129⟩, A40, H⟩ := H
 replace H : (if a0_5 = 3 then (if t1129 = true then (some (decide (a1 > t1128))) else (some false)) else (some false)) = some r := H
 have A4 := Aside0.mk A40
 clear A40
 by_cases c5 : a0_5 = 3
 ·
  rw [if_pos c5] at H
  have c5b0 : (a0_5 == 3) = true := beq_iff_eq.mpr c5
  have c5b1 : (a0_5 != 3) = false := bne_eq_false_iff_eq.mpr c5
  clear c5
  by_cases c6 : t1129 = true
  ·
   subst c6
   have H1 : (some (decide (a1 > t1128))) = some r := by rw [if_pos rfl] at H; exact H
   clear H
   have H := H1
   clear H1
   obtain rfl := Option.some.inj H
   go_enter Tryd.func37, Tryd.ntmps37
   go_wp2_with (first | ((with_reducible refine gate_dst (N := 3) rfl ?_); refine box_event ?hg (N := 3) ?hd (cs := #[.int .i64 a0_0, .int .i64 a0_1, .int .i64 a0_2, .int .i64 a0_3, .int .i64 a0_4, .int .i64 a0_5, .int .i64 a0_6, .int .i64 a0_7, .int .i64 a0_8, .int .i64 a0_9, .slice A0_10 l0_10.length c0_10]) (t := 38) ?hr ?_; (case hd => rfl); (case hg => rfl); (case hr => first | (go_simp; done) | (go_simp; rfl)); intro gb1127 hg w7 hbox hb; have n0_ := Aside0.mk (below_step HB.out hb); have n1_ := Aside0.mk (hbox); have n2_ := Aside0.mk ((by rw [hg]; exact (below_size HB.out) : w.heap.size ≤ gb1127)); have n3_ := Aside0.mk ((by rw [hg]; exact (below_size HB.out) : w.heap.size ≤ gb1127)); clear HB; have HB := n0_; have BK1127 := n1_; have GW1127 := n2_; have GE1127 := n3_; clear n0_ n1_ n2_ n3_; clear hb hbox hg; have hcz8_0 : w7.cell? ⟨gb1127, 0, none⟩ = some (.int .i64 a0_0) := (blk_cell BK1127.out 0).trans rfl; have hcz8_1 : w7.cell? ⟨gb1127, 1, none⟩ = some (.int .i64 a0_1) := (blk_cell BK1127.out 1).trans rfl; have hcz8_2 : w7.cell? ⟨gb1127, 2, none⟩ = some (.int .i64 a0_2) := (blk_cell BK1127.out 2).trans rfl; have hcz8_3 : w7.cell? ⟨gb1127, 3, none⟩ = some (.int .i64 a0_3) := (blk_cell BK1127.out 3).trans rfl; have hcz8_4 : w7.cell? ⟨gb1127, 4, none⟩ = some (.int .i64 a0_4) := (blk_cell BK1127.out 4).trans rfl; have hcz8_5 : w7.cell? ⟨gb1127, 5, none⟩ = some (.int .i64 a0_5) := (blk_cell BK1127.out 5).trans rfl; have hcz8_6 : w7.cell? ⟨gb1127, 6, none⟩ = some (.int .i64 a0_6) := (blk_cell BK1127.out 6).trans rfl; have hcz8_7 : w7.cell? ⟨gb1127, 7, none⟩ = some (.int .i64 a0_7) := (blk_cell BK1127.out 7).trans rfl; have hcz8_8 : w7.cell? ⟨gb1127, 8, none⟩ = some (.int .i64 a0_8) := (blk_cell BK1127.out 8).trans rfl; have hcz8_9 : w7.cell? ⟨gb1127, 9, none⟩ = some (.int .i64 a0_9) := (blk_cell BK1127.out 9).trans rfl; have hcz8_10 : w7.cell? ⟨gb1127, 10, none⟩ = some (.slice A0_10 l0_10.length c0_10) := (blk_cell BK1127.out 10).trans rfl; have hfz8_0 := blk_frozen BK1127.out 0; have hfz8_1 := blk_frozen BK1127.out 1; have hfz8_2 := blk_frozen BK1127.out 2; have hfz8_3 := blk_frozen BK1127.out 3; have hfz8_4 := blk_frozen BK1127.out 4; have hfz8_5 := blk_frozen BK1127.out 5; have hfz8_6 := blk_frozen BK1127.out 6; have hfz8_7 := blk_frozen BK1127.out 7; have hfz8_8 := blk_frozen BK1127.out 8; have hfz8_9 := blk_frozen BK1127.out 9; have hfz8_10 := blk_frozen BK1127.out 10) | ((with_reducible refine gate_callee (f := 62) rfl ?_); refine goesL_ (some 13) rfl rfl Tryd.func62 (by kernel_rfl) rfl #[.int .i64 2, .int .i64 a0_4, .slice A2 l2.length c2] rfl (by (try simp only [List.map_toArray, List.map_cons, List.map_nil]); first | done | rfl | (simp only [List.length_drop, List.length_take]; rfl)) ?_; (with_reducible refine (customsref24_Deadline.calls k 2 a0_4 _ _ l2 t1128 true _ ?side1 ?side2 A4.out).mono ?_); (case side1 => repeat (first | exact (Kd.C_below HR2.out HB.out) | (with_reducible refine Kd.C_alloc ?_ _) | (with_reducible refine Kd.C_drewN ?_ _) | (with_reducible refine Kd.C_drew ?_))); (case side2 => exact HC2.out); rintro e w9 ⟨rfl, hb⟩; refine ⟨_, rfl, ?_⟩; have n0_ := Aside0.mk (blk_below (g := gb1127) (o := .cells #[.int .i64 a0_0, .int .i64 a0_1, .int .i64 a0_2, .int .i64 a0_3, .int .i64 a0_4, .int .i64 a0_5, .int .i64 a0_6, .int .i64 a0_7, .int .i64 a0_8, .int .i64 a0_9, .slice A0_10 l0_10.length c0_10] 38 (0, 0)) (by (with_reducible repeat (first | refine blk_drewN ?_ _ | refine blk_drew ?_ | refine blk_alloc ?_ _)); exact BK1127.out) hb); have n1_ := Aside0.mk (below_step (by repeat (first | (with_reducible first | exact HB.out | apply below_alloc | apply pw_below_drewN | apply below_drew1 | refine below_set ?_ GE1127.out) | exact HB.out)) hb); clear BK1127; clear HB; have BK1127 := n0_; have HB := n1_; clear n0_ n1_; (try clear hb); (try clear hb2); (try clear hk); (try clear hi); have hcz10_0 : w9.cell? ⟨gb1127, 0, none⟩ = some (.int .i64 a0_0) := (blk_cell BK1127.out 0).trans rfl; have hcz10_1 : w9.cell? ⟨gb1127, 1, none⟩ = some (.int .i64 a0_1) := (blk_cell BK1127.out 1).trans rfl; have hcz10_2 : w9.cell? ⟨gb1127, 2, none⟩ = some (.int .i64 a0_2) := (blk_cell BK1127.out 2).trans rfl; have hcz10_3 : w9.cell? ⟨gb1127, 3, none⟩ = some (.int .i64 a0_3) := (blk_cell BK1127.out 3).trans rfl; have hcz10_4 : w9.cell? ⟨gb1127, 4, none⟩ = some (.int .i64 a0_4) := (blk_cell BK1127.out 4).trans rfl; have hcz10_5 : w9.cell? ⟨gb1127, 5, none⟩ = some (.int .i64 a0_5) := (blk_cell BK1127.out 5).trans rfl; have hcz10_6 : w9.cell? ⟨gb1127, 6, none⟩ = some (.int .i64 a0_6) := (blk_cell BK1127.out 6).trans rfl; have hcz10_7 : w9.cell? ⟨gb1127, 7, none⟩ = some (.int .i64 a0_7) := (blk_cell BK1127.out 7).trans rfl; have hcz10_8 : w9.cell? ⟨gb1127, 8, none⟩ = some (.int .i64 a0_8) := (blk_cell BK1127.out 8).trans rfl; have hcz10_9 : w9.cell? ⟨gb1127, 9, none⟩ = some (.int .i64 a0_9) := (blk_cell BK1127.out 9).trans rfl; have hcz10_10 : w9.cell? ⟨gb1127, 10, none⟩ = some (.slice A0_10 l0_10.length c0_10) := (blk_cell BK1127.out 10).trans rfl; have hfz10_0 := blk_frozen BK1127.out 0; have hfz10_1 := blk_frozen BK1127.out 1; have hfz10_2 := blk_frozen BK1127.out 2; have hfz10_3 := blk_frozen BK1127.out 3; have hfz10_4 := blk_frozen BK1127.out 4; have hfz10_5 := blk_frozen BK1127.out 5; have hfz10_6 := blk_frozen BK1127.out 6; have hfz10_7 := blk_frozen BK1127.out 7; have hfz10_8 := blk_frozen BK1127.out 8; have hfz10_9 := blk_frozen BK1127.out 9; have hfz10_10 := blk_frozen BK1127.out 10))
   go_ret
   exact ⟨by first | rfl | (simp [errW_none, errW_some] <;> rfl) | (simp [*, errW_none, errW_some] <;> rfl), by repeat (first | (with_reducible first | exact HB.out | apply below_alloc | apply pw_below_drewN | apply below_drew1 | refine below_set ?_ GE1127.out) | exact HB.out)⟩
  ·
   replace c6 := Bool.eq_false_iff.mpr c6
   subst c6
   have H1 : (some false) = some r := by rw [if_neg (show ¬ (false = true) by decide)] at H; exact H
   clear H
   have H := H1
   clear H1
   obtain rfl := Option.some.inj H
   go_enter Tryd.func37, Tryd.ntmps37
   go_wp2_with (first | ((with_reducible refine gate_dst (N := 3) rfl ?_); refine box_event ?hg (N := 3) ?hd (cs := #[.int .i64 a0_0, .int .i64 a0_1, .int .i64 a0_2, .int .i64 a0_3, .int .i64 a0_4, .int .i64 a0_5, .int .i64 a0_6, .int .i64 a0_7, .int .i64 a0_8, .int .i64 a0_9, .slice A0_10 l0_10.length c0_10]) (t := 38) ?hr ?_; (case hd => rfl); (case hg => rfl); (case hr => first | (go_simp; done) | (go_simp; rfl)); intro gb1127 hg w11 hbox hb; have n0_ := Aside0.mk (below_step HB.out hb); have n1_ := Aside0.mk (hbox); have n2_ := Aside0.mk ((by rw [hg]; exact (below_size HB.out) : w.heap.size ≤ gb1127)); have n3_ := Aside0.mk ((by rw [hg]; exact (below_size HB.out) : w.heap.size ≤ gb1127)); clear HB; have HB := n0_; have BK1127 := n1_; have GW1127 := n2_; have GE1127 := n3_; clear n0_ n1_ n2_ n3_; clear hb hbox hg; have hcz12_0 : w11.cell? ⟨gb1127, 0, none⟩ = some (.int .i64 a0_0) := (blk_cell BK1127.out 0).trans rfl; have hcz12_1 : w11.cell? ⟨gb1127, 1, none⟩ = some (.int .i64 a0_1) := (blk_cell BK1127.out 1).trans rfl; have hcz12_2 : w11.cell? ⟨gb1127, 2, none⟩ = some (.int .i64 a0_2) := (blk_cell BK1127.out 2).trans rfl; have hcz12_3 : w11.cell? ⟨gb1127, 3, none⟩ = some (.int .i64 a0_3) := (blk_cell BK1127.out 3).trans rfl; have hcz12_4 : w11.cell? ⟨gb1127, 4, none⟩ = some (.int .i64 a0_4) := (blk_cell BK1127.out 4).trans rfl; have hcz12_5 : w11.cell? ⟨gb1127, 5, none⟩ = some (.int .i64 a0_5) := (blk_cell BK1127.out 5).trans rfl; have hcz12_6 : w11.cell? ⟨gb1127, 6, none⟩ = some (.int .i64 a0_6) := (blk_cell BK1127.out 6).trans rfl; have hcz12_7 : w11.cell? ⟨gb1127, 7, none⟩ = some (.int .i64 a0_7) := (blk_cell BK1127.out 7).trans rfl; have hcz12_8 : w11.cell? ⟨gb1127, 8, none⟩ = some (.int .i64 a0_8) := (blk_cell BK1127.out 8).trans rfl; have hcz12_9 : w11.cell? ⟨gb1127, 9, none⟩ = some (.int .i64 a0_9) := (blk_cell BK1127.out 9).trans rfl; have hcz12_10 : w11.cell? ⟨gb1127, 10, none⟩ = some (.slice A0_10 l0_10.length c0_10) := (blk_cell BK1127.out 10).trans rfl; have hfz12_0 := blk_frozen BK1127.out 0; have hfz12_1 := blk_frozen BK1127.out 1; have hfz12_2 := blk_frozen BK1127.out 2; have hfz12_3 := blk_frozen BK1127.out 3; have hfz12_4 := blk_frozen BK1127.out 4; have hfz12_5 := blk_frozen BK1127.out 5; have hfz12_6 := blk_frozen BK1127.out 6; have hfz12_7 := blk_frozen BK1127.out 7; have hfz12_8 := blk_frozen BK1127.out 8; have hfz12_9 := blk_frozen BK1127.out 9; have hfz12_10 := blk_frozen BK1127.out 10) | ((with_reducible refine gate_callee (f := 62) rfl ?_); refine goesL_ (some 13) rfl rfl Tryd.func62 (by kernel_rfl) rfl #[.int .i64 2, .int .i64 a0_4, .slice A2 l2.length c2] rfl (by (try simp only [List.map_toArray, List.map_cons, List.map_nil]); first | done | rfl | (simp only [List.length_drop, List.length_take]; rfl)) ?_; (with_reducible refine (customsref24_Deadline.calls k 2 a0_4 _ _ l2 t1128 false _ ?side1 ?side2 A4.out).mono ?_); (case side1 => repeat (first | exact (Kd.C_below HR2.out HB.out) | (with_reducible refine Kd.C_alloc ?_ _) | (with_reducible refine Kd.C_drewN ?_ _) | (with_reducible refine Kd.C_drew ?_))); (case side2 => exact HC2.out); rintro e w13 ⟨rfl, hb⟩; refine ⟨_, rfl, ?_⟩; have n0_ := Aside0.mk (blk_below (g := gb1127) (o := .cells #[.int .i64 a0_0, .int .i64 a0_1, .int .i64 a0_2, .int .i64 a0_3, .int .i64 a0_4, .int .i64 a0_5, .int .i64 a0_6, .int .i64 a0_7, .int .i64 a0_8, .int .i64 a0_9, .slice A0_10 l0_10.length c0_10] 38 (0, 0)) (by (with_reducible repeat (first | refine blk_drewN ?_ _ | refine blk_drew ?_ | refine blk_alloc ?_ _)); exact BK1127.out) hb); have n1_ := Aside0.mk (below_step (by repeat (first | (with_reducible first | exact HB.out | apply below_alloc | apply pw_below_drewN | apply below_drew1 | refine below_set ?_ GE1127.out) | exact HB.out)) hb); clear BK1127; clear HB; have BK1127 := n0_; have HB := n1_; clear n0_ n1_; (try clear hb); (try clear hb2); (try clear hk); (try clear hi); have hcz14_0 : w13.cell? ⟨gb1127, 0, none⟩ = some (.int .i64 a0_0) := (blk_cell BK1127.out 0).trans rfl; have hcz14_1 : w13.cell? ⟨gb1127, 1, none⟩ = some (.int .i64 a0_1) := (blk_cell BK1127.out 1).trans rfl; have hcz14_2 : w13.cell? ⟨gb1127, 2, none⟩ = some (.int .i64 a0_2) := (blk_cell BK1127.out 2).trans rfl; have hcz14_3 : w13.cell? ⟨gb1127, 3, none⟩ = some (.int .i64 a0_3) := (blk_cell BK1127.out 3).trans rfl; have hcz14_4 : w13.cell? ⟨gb1127, 4, none⟩ = some (.int .i64 a0_4) := (blk_cell BK1127.out 4).trans rfl; have hcz14_5 : w13.cell? ⟨gb1127, 5, none⟩ = some (.int .i64 a0_5) := (blk_cell BK1127.out 5).trans rfl; have hcz14_6 : w13.cell? ⟨gb1127, 6, none⟩ = some (.int .i64 a0_6) := (blk_cell BK1127.out 6).trans rfl; have hcz14_7 : w13.cell? ⟨gb1127, 7, none⟩ = some (.int .i64 a0_7) := (blk_cell BK1127.out 7).trans rfl; have hcz14_8 : w13.cell? ⟨gb1127, 8, none⟩ = some (.int .i64 a0_8) := (blk_cell BK1127.out 8).trans rfl; have hcz14_9 : w13.cell? ⟨gb1127, 9, none⟩ = some (.int .i64 a0_9) := (blk_cell BK1127.out 9).trans rfl; have hcz14_10 : w13.cell? ⟨gb1127, 10, none⟩ = some (.slice A0_10 l0_10.length c0_10) := (blk_cell BK1127.out 10).trans rfl; have hfz14_0 := blk_frozen BK1127.out 0; have hfz14_1 := blk_frozen BK1127.out 1; have hfz14_2 := blk_frozen BK1127.out 2; have hfz14_3 := blk_frozen BK1127.out 3; have hfz14_4 := blk_frozen BK1127.out 4; have hfz14_5 := blk_frozen BK1127.out 5; have hfz14_6 := blk_frozen BK1127.out 6; have hfz14_7 := blk_frozen BK1127.out 7; have hfz14_8 := blk_frozen BK1127.out 8; have hfz14_9 := blk_frozen BK1127.out 9; have hfz14_10 := blk_frozen BK1127.out 10))
   go_ret
   exact ⟨by first | rfl | (simp [errW_none, errW_some] <;> rfl) | (simp [*, errW_none, errW_some] <;> rfl), by repeat (first | (with_reducible first | exact HB.out | apply below_alloc | apply pw_below_drewN | apply below_drew1 | refine below_set ?_ GE1127.out) | exact HB.out)⟩
 ·
  rw [if_neg c5] at H
  have c5b0 : (a0_5 == 3) = false := beq_eq_false_iff_ne.mpr c5
  have c5b1 : (a0_5 != 3) = true := bne_iff_ne.mpr c5
  obtain rfl := Option.some.inj H
  go_enter Tryd.func37, Tryd.ntmps37
  go_wp2_with (first | ((with_reducible refine gate_dst (N := 3) rfl ?_); refine box_event ?hg (N := 3) ?hd (cs := #[.int .i64 a0_0, .int .i64 a0_1, .int .i64 a0_2, .int .i64 a0_3, .int .i64 a0_4, .int .i64 a0_5, .int .i64 a0_6, .int .i64 a0_7, .int .i64 a0_8, .int .i64 a0_9, .slice A0_10 l0_10.length c0_10]) (t := 38) ?hr ?_; (case hd => rfl); (case hg => rfl); (case hr => first | (go_simp; done) | (go_simp; rfl)); intro gb1127 hg w15 hbox hb; have n0_ := Aside0.mk (below_step HB.out hb); have n1_ := Aside0.mk (hbox); have n2_ := Aside0.mk ((by rw [hg]; exact (below_size HB.out) : w.heap.size ≤ gb1127)); have n3_ := Aside0.mk ((by rw [hg]; exact (below_size HB.out) : w.heap.size ≤ gb1127)); clear HB; have HB := n0_; have BK1127 := n1_; have GW1127 := n2_; have GE1127 := n3_; clear n0_ n1_ n2_ n3_; clear hb hbox hg; have hcz16_0 : w15.cell? ⟨gb1127, 0, none⟩ = some (.int .i64 a0_0) := (blk_cell BK1127.out 0).trans rfl; have hcz16_1 : w15.cell? ⟨gb1127, 1, none⟩ = some (.int .i64 a0_1) := (blk_cell BK1127.out 1).trans rfl; have hcz16_2 : w15.cell? ⟨gb1127, 2, none⟩ = some (.int .i64 a0_2) := (blk_cell BK1127.out 2).trans rfl; have hcz16_3 : w15.cell? ⟨gb1127, 3, none⟩ = some (.int .i64 a0_3) := (blk_cell BK1127.out 3).trans rfl; have hcz16_4 : w15.cell? ⟨gb1127, 4, none⟩ = some (.int .i64 a0_4) := (blk_cell BK1127.out 4).trans rfl; have hcz16_5 : w15.cell? ⟨gb1127, 5, none⟩ = some (.int .i64 a0_5) := (blk_cell BK1127.out 5).trans rfl; have hcz16_6 : w15.cell? ⟨gb1127, 6, none⟩ = some (.int .i64 a0_6) := (blk_cell BK1127.out 6).trans rfl; have hcz16_7 : w15.cell? ⟨gb1127, 7, none⟩ = some (.int .i64 a0_7) := (blk_cell BK1127.out 7).trans rfl; have hcz16_8 : w15.cell? ⟨gb1127, 8, none⟩ = some (.int .i64 a0_8) := (blk_cell BK1127.out 8).trans rfl; have hcz16_9 : w15.cell? ⟨gb1127, 9, none⟩ = some (.int .i64 a0_9) := (blk_cell BK1127.out 9).trans rfl; have hcz16_10 : w15.cell? ⟨gb1127, 10, none⟩ = some (.slice A0_10 l0_10.length c0_10) := (blk_cell BK1127.out 10).trans rfl; have hfz16_0 := blk_frozen BK1127.out 0; have hfz16_1 := blk_frozen BK1127.out 1; have hfz16_2 := blk_frozen BK1127.out 2; have hfz16_3 := blk_frozen BK1127.out 3; have hfz16_4 := blk_frozen BK1127.out 4; have hfz16_5 := blk_frozen BK1127.out 5; have hfz16_6 := blk_frozen BK1127.out 6; have hfz16_7 := blk_frozen BK1127.out 7; have hfz16_8 := blk_frozen BK1127.out 8; have hfz16_9 := blk_frozen BK1127.out 9; have hfz16_10 := blk_frozen BK1127.out 10) | ((with_reducible refine gate_callee (f := 62) rfl ?_); refine goesL_ (some 13) rfl rfl Tryd.func62 (by kernel_rfl) rfl #[.int .i64 2, .int .i64 a0_4, .slice A2 l2.length c2] rfl (by (try simp only [List.map_toArray, List.map_cons, List.map_nil]); first | done | rfl | (simp only [List.length_drop, List.length_take]; rfl)) ?_; (with_reducible refine (customsref24_Deadline.calls k 2 a0_4 _ _ l2 t1128 t1129 _ ?side1 ?side2 A4.out).mono ?_); (case side1 => repeat (first | exact (Kd.C_below HR2.out HB.out) | (with_reducible refine Kd.C_alloc ?_ _) | (with_reducible refine Kd.C_drewN ?_ _) | (with_reducible refine Kd.C_drew ?_))); (case side2 => exact HC2.out); rintro e w17 ⟨rfl, hb⟩; refine ⟨_, rfl, ?_⟩; have n0_ := Aside0.mk (blk_below (g := gb1127) (o := .cells #[.int .i64 a0_0, .int .i64 a0_1, .int .i64 a0_2, .int .i64 a0_3, .int .i64 a0_4, .int .i64 a0_5, .int .i64 a0_6, .int .i64 a0_7, .int .i64 a0_8, .int .i64 a0_9, .slice A0_10 l0_10.length c0_10] 38 (0, 0)) (by (with_reducible repeat (first | refine blk_drewN ?_ _ | refine blk_drew ?_ | refine blk_alloc ?_ _)); exact BK1127.out) hb); have n1_ := Aside0.mk (below_step (by repeat (first | (with_reducible first | exact HB.out | apply below_alloc | apply pw_below_drewN | apply below_drew1 | refine below_set ?_ GE1127.out) | exact HB.out)) hb); clear BK1127; clear HB; have BK1127 := n0_; have HB := n1_; clear n0_ n1_; (try clear hb); (try clear hb2); (try clear hk); (try clear hi); have hcz18_0 : w17.cell? ⟨gb1127, 0, none⟩ = some (.int .i64 a0_0) := (blk_cell BK1127.out 0).trans rfl; have hcz18_1 : w17.cell? ⟨gb1127, 1, none⟩ = some (.int .i64 a0_1) := (blk_cell BK1127.out 1).trans rfl; have hcz18_2 : w17.cell? ⟨gb1127, 2, none⟩ = some (.int .i64 a0_2) := (blk_cell BK1127.out 2).trans rfl; have hcz18_3 : w17.cell? ⟨gb1127, 3, none⟩ = some (.int .i64 a0_3) := (blk_cell BK1127.out 3).trans rfl; have hcz18_4 : w17.cell? ⟨gb1127, 4, none⟩ = some (.int .i64 a0_4) := (blk_cell BK1127.out 4).trans rfl; have hcz18_5 : w17.cell? ⟨gb1127, 5, none⟩ = some (.int .i64 a0_5) := (blk_cell BK1127.out 5).trans rfl; have hcz18_6 : w17.cell? ⟨gb1127, 6, none⟩ = some (.int .i64 a0_6) := (blk_cell BK1127.out 6).trans rfl; have hcz18_7 : w17.cell? ⟨gb1127, 7, none⟩ = some (.int .i64 a0_7) := (blk_cell BK1127.out 7).trans rfl; have hcz18_8 : w17.cell? ⟨gb1127, 8, none⟩ = some (.int .i64 a0_8) := (blk_cell BK1127.out 8).trans rfl; have hcz18_9 : w17.cell? ⟨gb1127, 9, none⟩ = some (.int .i64 a0_9) := (blk_cell BK1127.out 9).trans rfl; have hcz18_10 : w17.cell? ⟨gb1127, 10, none⟩ = some (.slice A0_10 l0_10.length c0_10) := (blk_cell BK1127.out 10).trans rfl; have hfz18_0 := blk_frozen BK1127.out 0; have hfz18_1 := blk_frozen BK1127.out 1; have hfz18_2 := blk_frozen BK1127.out 2; have hfz18_3 := blk_frozen BK1127.out 3; have hfz18_4 := blk_frozen BK1127.out 4; have hfz18_5 := blk_frozen BK1127.out 5; have hfz18_6 := blk_frozen BK1127.out 6; have hfz18_7 := blk_frozen BK1127.out 7; have hfz18_8 := blk_frozen BK1127.out 8; have hfz18_9 := blk_frozen BK1127.out 9; have hfz18_10 := blk_frozen BK1127.out 10))
  go_ret
  exact ⟨by first | rfl | (simp [errW_none, errW_some] <;> rfl) | (simp [*, errW_none, errW_some] <;> rfl), by repeat (first | (with_reducible first | exact HB.out | apply below_alloc | apply pw_below_drewN | apply below_drew1 | refine below_set ?_ GE1127.out) | exact HB.out)⟩

def staB (lot off gua day ver amount : Int) (s : List Int) : Dep := ⟨lot, ver, off, gua, day, 1, ver, amount, 0, 0, s⟩
theorem adjB_s (d : Dep) (duty : Int) : (adjB d duty).1.s = d.s := by unfold adjB; split <;> (try split) <;> rfl
theorem resB_s (d : Dep) (c : Int) : (resB d c).1.s = d.s := by unfold resB; split <;> rfl
theorem misB_s (d : Dep) : (misB d).1.s = d.s := by unfold misB; split <;> rfl
theorem decB_s (d : Dep) (ver cov : Int) (g : Bool) : (decB d ver cov g).s = d.s := by unfold decB; split <;> (try split) <;> (try split) <;> rfl
section
variable {w : World} {v u : Value}
theorem tadj_r (d : Dep) (duty : Int) (r : Dep × Bool) (e : adjB d duty = r) (h : Rd (Kd.int .i64) w v d.s) (hl : d.s.length ≤ 17592186043904) :
  Calls Tryd.prog 27 #[.agg (d.c v), .int .i64 duty] w fun e w' => ∃ u : Value, e = .returned (.tuple #[.agg (r.1.c u), .bool r.2]) ∧ Rd (Kd.int .i64) w' u r.1.s ∧ Below w.heap.size w w' := by
 obtain ⟨A, c1, rfl, hc, hr⟩ := h
 have hF : transit_Adjust.f d.a0 d.a1 d.a2 d.a3 d.a4 d.a5 d.a6 d.a7 d.a8 d.a9 d.s duty = some (r.1.a0, r.1.a1, r.1.a2, r.1.a3, r.1.a4, r.1.a5, r.1.a6, r.1.a7, r.1.a8, r.1.a9, r.1.s, r.2) := by
  rw [← e]
  unfold transit_Adjust.f adjB
  rw [departed_big d hl]
  simp only [Option.bind_some]
  by_cases c0 : d.a5 = 3
  ·
   by_cases c1 : d.a7 = duty
   ·
    simp [c0, c1]
   ·
    simp [c0, c1]
  ·
   simp [c0]
 refine (transit_Adjust.calls d.a0 d.a1 d.a2 d.a3 d.a4 d.a5 d.a6 d.a7 d.a8 d.a9 A c1 d.s duty _ _ _ _ _ _ _ _ _ _ _ _ w hr hc hF).mono ?_
 rintro e w' ⟨u, rfl, o, hb⟩
 exact ⟨u, rfl, Rd.of_R o, hb⟩
theorem radj_r (d : Dep) (duty : Int) (r : Dep × Bool) (e : adjB d duty = r) (h : Rd (Kd.int .i64) w v d.s) :
  Calls Tryd.prog 28 #[.agg (d.c v), .int .i64 duty] w fun e w' => ∃ u : Value, e = .returned (.tuple #[.agg (r.1.c u), .bool r.2]) ∧ Rd (Kd.int .i64) w' u r.1.s ∧ Below w.heap.size w w' := by
 subst e
 exact radj_e d duty h
theorem tres_r (d : Dep) (c : Int) (r : Dep × Bool) (e : resB d c = r) (h : Rd (Kd.int .i64) w v d.s) (hl : d.s.length ≤ 17592186043904) :
  Calls Tryd.prog 29 #[.agg (d.c v), .int .i64 c] w fun e w' => ∃ u : Value, e = .returned (.tuple #[.agg (r.1.c u), .bool r.2]) ∧ Rd (Kd.int .i64) w' u r.1.s ∧ Below w.heap.size w w' := by
 obtain ⟨A, c1, rfl, hc, hr⟩ := h
 have hF : transit_Result.f d.a0 d.a1 d.a2 d.a3 d.a4 d.a5 d.a6 d.a7 d.a8 d.a9 d.s c = some (r.1.a0, r.1.a1, r.1.a2, r.1.a3, r.1.a4, r.1.a5, r.1.a6, r.1.a7, r.1.a8, r.1.a9, r.1.s, r.2) := by
  rw [← e]
  unfold transit_Result.f transit_ended.f resB
  rw [departed_big d hl]
  simp only [Option.bind_some]
  by_cases c0 : d.a5 = 3
  ·
   simp [c0]
  ·
   simp [c0]
 refine (transit_Result.calls d.a0 d.a1 d.a2 d.a3 d.a4 d.a5 d.a6 d.a7 d.a8 d.a9 A c1 d.s c _ _ _ _ _ _ _ _ _ _ _ _ w hr hc hF).mono ?_
 rintro e w' ⟨u, rfl, o, hb⟩
 exact ⟨u, rfl, Rd.of_R o, hb⟩
theorem rres_r (d : Dep) (c : Int) (r : Dep × Bool) (e : resB d c = r) (h : Rd (Kd.int .i64) w v d.s) :
  Calls Tryd.prog 30 #[.agg (d.c v), .int .i64 c] w fun e w' => ∃ u : Value, e = .returned (.tuple #[.agg (r.1.c u), .bool r.2]) ∧ Rd (Kd.int .i64) w' u r.1.s ∧ Below w.heap.size w w' := by
 subst e
 exact rres_e d c h
theorem tmis_r (d : Dep) (r : Dep × Bool) (e : misB d = r) (h : Rd (Kd.int .i64) w v d.s) (hl : d.s.length ≤ 17592186043904) :
  Calls Tryd.prog 31 #[.agg (d.c v)] w fun e w' => ∃ u : Value, e = .returned (.tuple #[.agg (r.1.c u), .bool r.2]) ∧ Rd (Kd.int .i64) w' u r.1.s ∧ Below w.heap.size w w' := by
 obtain ⟨A, c1, rfl, hc, hr⟩ := h
 have hF : transit_Missing.f d.a0 d.a1 d.a2 d.a3 d.a4 d.a5 d.a6 d.a7 d.a8 d.a9 d.s = some (r.1.a0, r.1.a1, r.1.a2, r.1.a3, r.1.a4, r.1.a5, r.1.a6, r.1.a7, r.1.a8, r.1.a9, r.1.s, r.2) := by
  rw [← e]
  unfold transit_Missing.f transit_ended.f misB
  rw [departed_big d hl]
  simp only [Option.bind_some]
  by_cases c0 : d.a5 = 3
  ·
   simp [c0]
  ·
   simp [c0]
 refine (transit_Missing.calls d.a0 d.a1 d.a2 d.a3 d.a4 d.a5 d.a6 d.a7 d.a8 d.a9 A c1 d.s _ _ _ _ _ _ _ _ _ _ _ _ w hr hc hF).mono ?_
 rintro e w' ⟨u, rfl, o, hb⟩
 exact ⟨u, rfl, Rd.of_R o, hb⟩
theorem rmis_r (d : Dep) (r : Dep × Bool) (e : misB d = r) (h : Rd (Kd.int .i64) w v d.s) :
  Calls Tryd.prog 32 #[.agg (d.c v)] w fun e w' => ∃ u : Value, e = .returned (.tuple #[.agg (r.1.c u), .bool r.2]) ∧ Rd (Kd.int .i64) w' u r.1.s ∧ Below w.heap.size w w' := by
 subst e
 exact rmis_e d h
theorem tdec_r (d : Dep) (ver : Int) (cov : Int) (g : Bool) (r : Dep) (e : decB d ver cov g = r) (h : Rd (Kd.int .i64) w v d.s) (hl : d.s.length ≤ 17592186043904) :
  Calls Tryd.prog 34 #[.agg (d.c v), .int .i64 ver, .int .i64 cov, .bool g] w fun e w' => ∃ u : Value, e = .returned (.agg (r.c u)) ∧ Rd (Kd.int .i64) w' u r.s ∧ Below w.heap.size w w' := by
 subst e
 refine (tdec_e d ver cov g h hl).mono ?_
 rintro e w' ⟨u, rfl, o, hb⟩
 exact ⟨u, rfl, Rd.of_R o, hb⟩
theorem rdec_r (d : Dep) (ver : Int) (cov : Int) (g : Bool) (r : Dep) (e : decB d ver cov g = r) (h : Rd (Kd.int .i64) w v d.s) :
  Calls Tryd.prog 35 #[.agg (d.c v), .int .i64 ver, .int .i64 cov, .bool g] w fun e w' => ∃ u : Value, e = .returned (.agg (r.c u)) ∧ Rd (Kd.int .i64) w' u r.s ∧ Below w.heap.size w w' := by
 subst e
 exact rdec_e d ver cov g h
theorem tsta_r (lot off gua day ver amount : Int) (s : List Int) (r : Dep) (e : staB lot off gua day ver amount s = r) (h : Rd (Kd.int .i64) w v s) (hl : s.length ≤ 17592186043904) :
  Calls Tryd.prog 38 #[.int .i64 lot, .int .i64 off, .int .i64 gua, .int .i64 day, .int .i64 ver, .int .i64 amount, v] w fun e w' => ∃ u : Value, e = .returned (.agg (r.c u)) ∧ Rd (Kd.int .i64) w' u r.s ∧ Below w.heap.size w w' := by
 subst e
 obtain ⟨A, c1, rfl, hc, hr⟩ := h
 refine (transit_Start.calls lot off gua day ver amount A c1 s _ _ _ _ _ _ _ _ _ _ _ w hr hc (by unfold transit_Start.f; rw [clone_big hl]; rfl)).mono ?_
 rintro e w' ⟨u, rfl, o, hb⟩
 exact ⟨u, rfl, Rd.of_R o, hb⟩
theorem rsta_r (lot off gua day ver amount : Int) (s : List Int) (r : Dep) (e : staB lot off gua day ver amount s = r) (h : Rd (Kd.int .i64) w v s) :
  Calls Tryd.prog 39 #[.int .i64 lot, .int .i64 off, .int .i64 gua, .int .i64 day, .int .i64 ver, .int .i64 amount, v] w fun e w' => ∃ u : Value, e = .returned (.agg (r.c u)) ∧ Rd (Kd.int .i64) w' u r.s ∧ Below w.heap.size w w' := by
 subst e
 obtain ⟨A, c1, rfl, hc, hr⟩ := h
 refine (customsref33_Start.calls lot off gua day ver amount (fun k => k < w.heap.size) A c1 s _ _ _ _ _ _ _ _ _ _ _ w (Rd.toV (Kd.heap_int .i64) hc hr) rfl).mono ?_
 rintro e w' ⟨u, rfl, o, hb⟩
 exact ⟨u, rfl, Rd.ofV o, hb⟩
/-- Whether the goods are overdue: one answer for both. -/
def OverB (d : Dep) (day : Int) (b : Bool) : Prop := ∃ k, transit_Overdue.f k d.a0 d.a1 d.a2 d.a3 d.a4 d.a5 d.a6 d.a7 d.a8 d.a9 d.s day [3, 10] = some b ∧ customsref33_Overdue.f k d.a0 d.a1 d.a2 d.a3 d.a4 d.a5 d.a6 d.a7 d.a8 d.a9 d.s day [3, 10] = some b
theorem tover_r (d : Dep) (day : Int) (b : Bool) {g : Nat} (e : OverB d day b) (h : Rd (Kd.int .i64) w v d.s) (hL : w.heap[g]? = some (.cells #[.int .i64 3, .int .i64 10] 3 (0, 0))) (hG : GL_lengths w) :
  Calls Tryd.prog 36 #[.agg (d.c v), .int .i64 day, .slice (some ⟨g, 0, none⟩) 2 2] w fun e w' => e = .returned (.bool b) ∧ Below w.heap.size w w' := by
 obtain ⟨A, c1, rfl, hc, hr⟩ := h
 obtain ⟨k, h1, _⟩ := e
 exact transit_Overdue.calls k d.a0 d.a1 d.a2 d.a3 d.a4 d.a5 d.a6 d.a7 d.a8 d.a9 A c1 d.s day (some ⟨g, 0, none⟩) 2 [3, 10] b w hr hc (lit_C (l := [3, 10]) hL (by decide)) (Nat.le_refl _) hG h1
theorem rover_r (d : Dep) (day : Int) (b : Bool) {g : Nat} (e : OverB d day b) (h : Rd (Kd.int .i64) w v d.s) (hL : w.heap[g]? = some (.cells #[.int .i64 3, .int .i64 10] 3 (0, 0))) :
  Calls Tryd.prog 37 #[.agg (d.c v), .int .i64 day, .slice (some ⟨g, 0, none⟩) 2 2] w fun e w' => e = .returned (.bool b) ∧ Below w.heap.size w w' := by
 obtain ⟨A, c1, rfl, hc, hr⟩ := h
 obtain ⟨k, _, h2⟩ := e
 exact customsref33_Overdue.calls k d.a0 d.a1 d.a2 d.a3 d.a4 d.a5 d.a6 d.a7 d.a8 d.a9 A c1 d.s day (some ⟨g, 0, none⟩) 2 [3, 10] b w hr hc (lit_C (l := [3, 10]) hL (by decide)) (Nat.le_refl _) h2
end


/-- Two rows that are built beside each other: u, and v, which lies in the variable g8 (or will lie there). -/
structure Two (w : World) (g8 : Nat) (c8 : Value) (W : World) (u : Value) (U : List Int) (v : Value) (V : List Int) : Prop where
 r8 : W.heap[g8]? = some (.cells #[c8] 25 (0, 0))
 ru : Kd.R (Kd.int .i64) 3 W w.heap.size (fun k => some k ≠ v.ownBlock) u U
 rv : Kd.R (Kd.int .i64) 3 W w.heap.size (fun k => some k ≠ u.ownBlock) v V
 b : Below w.heap.size w W
 g : w.heap.size ≤ g8
section
variable {w W W1 : World} {g8 g10 : Nat} {c8 u v u1 v1 : Value} {U V : List Int} {x : Int} {row : Array Value}
theorem Two.below (h : Two w g8 c8 W u U v V) (k : Below W.heap.size W W1) : Two w g8 c8 W1 u U v V :=
 ⟨blk_below h.r8 k, Kd.R_below h.ru k, Kd.R_below h.rv k, h.b.trans (k.mono h.b.size), h.g⟩
theorem Two.same (h : Two w g8 c8 W u U v V) (hW : W1.heap[g8]? = some (.cells #[v] 25 (0, 0))) (k : Same g8 W W1) : Two w g8 v W1 u U v V :=
 ⟨hW, R_same h.ru h.r8 (by decide) k, R_same h.rv h.r8 (by decide) k, (Mv.of_below h.b (fun _ => False)).then_ (Mv.same (fun k => k = g8) rfl k) (fun i hi => .inr (by rw [hi]; exact h.g)) |>.below (Nat.le_refl _) (fun _ hk => hk.elim), h.g⟩
end
section
variable {P : Program} {ops : Array Oper} {Q : Exit → Act → World → Prop} {oi : Oper} {N : Option Tmp} {a : Act} {Kc : Act → World → Prop}
/-- A slice of one number is made, in a region that draws. -/
theorem lit_step {W : World} {cs : Array Value} {t : TypeId} {n : Nat} (hw : Region.wanted oi (yielded ops a.tmps) = true) (hN : oi.dst = N)
  (hrun : (execOp a.eval oi).run P W = .ok (.value (.slice (some ⟨W.heap.size, 0, none⟩) n n)) (W.alloc (.cells cs t (0, 0))))
  (h : ∀ g, g = W.heap.size → ∀ w1, w1.heap[g]? = some (.cells cs t (0, 0)) → Below W.heap.size W w1 → Kc (a.put N (.slice (some ⟨g, 0, none⟩) n n)) w1) :
  if Region.wanted oi (yielded ops a.tmps) = true then Oper.wp P oi a W Kc Q else Kc (a.put N undef) W :=
 value_ hw hN hrun (h _ rfl _ (blk_new W _) (below_alloc (Below.refl _ _) _))
end
section
variable {ops : Array Oper} {Q : Exit → Act → World → Prop} {o : Oper} {a : Act} {Kc : Act → World → Prop}
variable {w W : World} {g8 b : Nat} {c8 u v : Value} {U V : List Int} {x : Int}
end
def dep_T2 : Bool × List (List Nat × List Nat) := (true, [([], []), ([0], [0]), ([1], [1]), ([], []), ([3], [3]), ([4, 2], [4]), ([], []), ([6], [6]), ([7, 5], [7]), ([0, 1, 2, 3, 4, 6, 7], []), ([9, 2, 8, 0, 1, 2, 3, 4, 6, 7], [2, 9]), ([0, 1, 2, 3, 4, 5, 6, 7, 9, 10], []), ([11, 5, 10, 0, 1, 2, 3, 4, 5, 6, 7, 9, 10], [5, 11]), ([0, 1, 2, 3, 4, 5, 6, 7, 8, 9, 10, 11, 12], []), ([13, 8, 12, 0, 1, 2, 3, 4, 5, 6, 7, 8, 9, 10, 11, 12], [8, 13])])
def dep_B2 : List Nat := [0, 1, 3, 0, 8, 31, 0, 64, 255, 223, 1023, 2047, 4095, 8191, 16383]
theorem dep_tab2 : rtab .any (opsOf Tryd.f7 2) = dep_T2 := by kernel_rfl
theorem dep_bits2 : waitsOk dep_T2.2 dep_B2 = true := by kernel_rfl
def dep_T12 : Bool × List (List Nat × List Nat) := (true, [([], []), ([], []), ([], []), ([], []), ([0, 1, 2, 3], [0, 1, 2, 3]), ([], []), ([], []), ([], []), ([], []), ([5, 6, 7, 8, 4], [5, 6, 7, 8]), ([4, 9, 9], [4, 9]), ([10, 10], [10]), ([11], [11]), ([11], [11]), ([12, 13, 11, 11], [11, 12, 13]), ([11, 14], [11, 14]), ([15, 14], [15]), ([16], [16]), ([16], [16]), ([17, 18, 16], [16, 17, 18]), ([16, 19], [16, 19]), ([20, 16], [20]), ([21], [21]), ([21], [21]), ([22, 23, 21, 21], [21, 22, 23]), ([21, 24], [21, 24]), ([25, 24], [25]), ([26], [26]), ([26], [26]), ([27, 28, 26], [26, 27, 28]), ([26, 29], [26, 29]), ([30, 26], [30]), ([31], [31]), ([31], [31]), ([32, 33, 31, 31], [31, 32, 33]), ([31, 34], [31, 34]), ([35, 34], [35]), ([36], [36]), ([36], [36]), ([37, 38, 36], [36, 37, 38]), ([36, 39], [36, 39]), ([40, 36], [40]), ([41], [41]), ([41], [41]), ([41], [41]), ([42, 43, 44, 41, 41], [41, 42, 43, 44]), ([41], [41]), ([41], [41]), ([41], [41]), ([46, 47, 48, 45, 41], [41, 46, 47, 48]), ([45, 49, 41], [41, 45, 49]), ([41, 50], [41, 50]), ([51, 49], [51]), ([52], [52]), ([52], [52]), ([52], [52]), ([52], [52]), ([56, 52], [52, 56]), ([52], [52]), ([58, 52], [52, 58]), ([52], [52]), ([60, 52], [52, 60]), ([52], [52]), ([62, 52], [52, 62]), ([53, 54, 55, 57, 59, 61, 63, 52, 52], [52, 53, 54, 55, 57, 59, 61, 63]), ([52], [52]), ([52], [52]), ([52], [52]), ([52], [52]), ([68, 52], [52, 68]), ([52], [52]), ([70, 52], [52, 70]), ([52], [52]), ([72, 52], [52, 72]), ([52], [52]), ([74, 52], [52, 74]), ([65, 66, 67, 69, 71, 73, 75, 64, 52], [52, 65, 66, 67, 69, 71, 73, 75]), ([64, 76, 76, 52], [52, 64, 76]), ([52, 77], [52, 77]), ([78, 77], [78]), ([79, 79], [79]), ([79, 80], [79, 80]), ([81, 80, 0, 1, 2, 3, 4, 5, 6, 7, 8, 9, 10, 11, 12, 13, 14, 15, 16, 17, 18, 19, 20, 21, 22, 23, 24, 25, 26, 27, 28, 29, 30, 31, 32, 33, 34, 35, 36, 37, 38, 39, 40, 41, 42, 43, 44, 45, 46, 47, 48, 49, 50, 51, 52, 53, 54, 55, 56, 57, 58, 59, 60, 61, 62, 63, 64, 65, 66, 67, 68, 69, 70, 71, 72, 73, 74, 75, 76, 77, 78, 79, 80, 81], [81])])
def dep_B12 : List Nat := [0, 0, 0, 0, 15, 0, 0, 0, 0, 511, 1023, 2047, 4095, 4095, 16383, 32767, 65535, 131071, 131071, 524287, 1048575, 2097151, 4194303, 4194303, 16777215, 33554431, 67108863, 134217727, 134217727, 536870911, 1073741823, 2147483647, 4294967295, 4294967295, 17179869183, 34359738367, 68719476735, 137438953471, 137438953471, 549755813887, 1099511627775, 2199023255551, 4398046511103, 4398046511103, 4398046511103, 35184372088831, 4398046511103, 4398046511103, 4398046511103, 562949953421311, 1125899906842623, 2251799813685247, 4503599627370495, 9007199254740991, 9007199254740991, 9007199254740991, 9007199254740991, 81064793292668927, 9007199254740991, 297237575406452735, 9007199254740991, 1161928703861587967, 9007199254740991, 4620693217682128895, 18446744073709551615, 9007199254740991, 9007199254740991, 9007199254740991, 9007199254740991, 295156912378607566847, 9007199254740991, 1180600627916666044415, 9007199254740991, 4722375490068899954687, 9007199254740991, 18889474938677835595775, 75557863725914323419135, 151115727451828646838271, 302231454903657293676543, 604462909807314587353087, 1208925819614629174706175, 2417851639229258349412351, 4835703278458516698824703]
theorem dep_tab12 : rtab .any (opsOf Tryd.f7 12) = dep_T12 := by kernel_rfl
theorem dep_bits12 : waitsOk dep_T12.2 dep_B12 = true := by kernel_rfl
/-- A variable (block g) that holds a departure. -/
structure Vd (W : World) (g : Nat) (d : Dep) (u : Value) : Prop where
 at_ : W.heap[g]? = some (.cells (d.c u) 38 (0, 0))
 rd : Rd (Kd.int .i64) W u d.s
section
variable {w W W1 : World} {g : Nat} {d : Dep} {u : Value}
theorem Vd.below (h : Vd W g d u) (k : Below W.heap.size W W1) : Vd W1 g d u := ⟨blk_below h.at_ k, h.rd.below k⟩
theorem load38 (h : W.heap[g]? = some (.cells (d.c u) 38 (0, 0))) : (Instr.loadAt 38 (.pointer (some ⟨g, 0, none⟩))).run Tryd.prog W = .ok (.agg (d.c u)) W := load_eleven Tryd.underlying38 rfl (by kernel_rfl) h rfl
def zeroD : Array Value := #[.int .i64 0, .int .i64 0, .int .i64 0, .int .i64 0, .int .i64 0, .int .i64 0, .int .i64 0, .int .i64 0, .int .i64 0, .int .i64 0, .slice none 0 0]
theorem Vd.store (hg : g = W.heap.size) (h1 : W1.heap[g]? = some (.cells zeroD 38 (0, 0))) (b1 : Below W.heap.size W W1) (h : Rd (Kd.int .i64) W u d.s) :
  ∃ W2, (Instr.storeAt 38 (.pointer (some ⟨g, 0, none⟩)) (.agg (d.c u))).run Tryd.prog W1 = .ok () W2 ∧ Vd W2 g d u ∧ Below W.heap.size W W2 := by
 obtain ⟨W2, hr, h2, hF⟩ := store_eleven (tt := 38) (by kernel_rfl) h1 rfl (d.elf h.one)
 have hb : Below W.heap.size W W2 := (Mv.of_below b1 (fun _ => False)).then_ (Mv.same (fun k => k = g) rfl hF) (fun k hk => .inr (by rw [hk, hg]; exact Nat.le_refl _)) |>.below (Nat.le_refl _) (fun _ hk => hk.elim)
 exact ⟨W2, hr, ⟨h2, h.below hb⟩, hb⟩
end
/-- The seven departures at the law's end. -/
structure DS (W : World) (g6 g13 g15 g17 g19 g21 g23 : Nat) (z rA rR rM : Dep) (v u13 u15 u17 u19 u21 u23 : Value) : Prop where
 x6 : W.heap[g6]? = some (.cells (z.c v) 38 (0, 0))
 x13 : W.heap[g13]? = some (.cells (rA.c u13) 38 (0, 0))
 x15 : W.heap[g15]? = some (.cells (rA.c u15) 38 (0, 0))
 x17 : W.heap[g17]? = some (.cells (rR.c u17) 38 (0, 0))
 x19 : W.heap[g19]? = some (.cells (rR.c u19) 38 (0, 0))
 x21 : W.heap[g21]? = some (.cells (rM.c u21) 38 (0, 0))
 x23 : W.heap[g23]? = some (.cells (rM.c u23) 38 (0, 0))
structure DAll (w W : World) (g6 g13 g15 g17 g19 g21 g23 : Nat) (z rA rR rM : Dep) (v u13 u15 u17 u19 u21 u23 : Value) : Prop where
 b : Below w.heap.size w W
 y6 : Vd W g6 z v
 y13 : Vd W g13 rA u13
 y15 : Vd W g15 rA u15
 y17 : Vd W g17 rR u17
 y19 : Vd W g19 rR u19
 y21 : Vd W g21 rM u21
 y23 : Vd W g23 rM u23
section
variable {w W W1 : World} {g6 g13 g15 g17 g19 g21 g23 : Nat} {z rA rR rM : Dep} {v u13 u15 u17 u19 u21 u23 : Value}
theorem DAll.below (h : DAll w W g6 g13 g15 g17 g19 g21 g23 z rA rR rM v u13 u15 u17 u19 u21 u23) (k : Below W.heap.size W W1) : DAll w W1 g6 g13 g15 g17 g19 g21 g23 z rA rR rM v u13 u15 u17 u19 u21 u23 := ⟨below_below h.b k, h.y6.below k, h.y13.below k, h.y15.below k, h.y17.below k, h.y19.below k, h.y21.below k, h.y23.below k⟩
theorem DAll.s (h : DAll w W g6 g13 g15 g17 g19 g21 g23 z rA rR rM v u13 u15 u17 u19 u21 u23) : DS W g6 g13 g15 g17 g19 g21 g23 z rA rR rM v u13 u15 u17 u19 u21 u23 := ⟨h.y6.at_, h.y13.at_, h.y15.at_, h.y17.at_, h.y19.at_, h.y21.at_, h.y23.at_⟩
end
theorem within_r (x n : Int) (hn : 0 < n) (hb : n ≤ 4611686018427387904) : ∃ k, customsmade_Within.f x n = some k ∧ 0 ≤ k ∧ k < n := by
 have a := Int.tmod_lt_of_pos x hn
 have b : -n < Int.tmod x n := by
  have := Int.lt_tmod_of_pos x hn
  omega
 refine ⟨_, if_neg (by omega), ?_, ?_⟩
 ·
  rw [w_up (by omega) (by omega)]
  exact Int.tmod_nonneg _ (by omega)
 ·
  exact Int.tmod_lt_of_pos _ hn
set_option maxHeartbeats 16000000 in
set_option maxRecDepth 100000 in
theorem depart_calls (d : Dep) (v : Value) (a b c : Int) (g raw : Bool) (w : World) (hd : Rd (Kd.int .i64) w v d.s) (hl : d.s.length ≤ 17592186043904) (hG1 : GL_lengths w) (hG2 : GL_changes w) (hO : ∀ (z : Dep) (day : Int), ∃ b, OverB z day b) :
  Calls Tryd.prog 7 #[.agg (d.c v), .int .i64 a, .int .i64 b, .int .i64 c, .bool g, .bool raw] w fun e w' => e = .returned (.bool true) ∧ Below w.heap.size w w' := by
 have HLd := Aside0.mk hl
 have HG1 := Aside0.mk hG1
 have HG2 := Aside0.mk hG2
 have HD := Aside0.mk hd
 have HO := Aside0.mk hO
 clear hl hG1 hG2 hd hO
 have hu38 := Tryd.underlying38
 go_enter Tryd.func7, Tryd.ntmps7
 go_upto_if 26 with (first | ((with_reducible refine gate_dst (N := 6) rfl ?_); refine box_event rfl (N := 6) rfl (cs := d.c v) (t := 38) ?hr ?_; (case hr => first | (go_simp; done) | (go_simp; rfl)); intro g6 hg w1 h1 b1; have VB := Aside0.mk b1; have F6 : Aside0 (Vd w1 g6 d v) := ⟨⟨h1, HD.out.below b1⟩⟩; have GE := Aside0.mk (show w.heap.size ≤ g6 by rw [hg]; exact Nat.le_refl _); clear hg h1 b1))
 (try simp only [Act.put, List.setIfInBounds_toArray, List.set_cons_zero, List.set_cons_succ])
 go_cut [1, 2, 3] (fun v1 v2 v3 wc => ∃ (z : Dep) (a' b' c' : Int), v1 = .int .i64 a' ∧ v2 = .int .i64 b' ∧ v3 = .int .i64 c' ∧ Aside0 (Below w.heap.size w wc) ∧ Aside0 (Vd wc g6 z v) ∧ Aside0 (z.s = d.s))
 case first =>
  cases raw with
  | true =>
   go_wp2
   go_meet
   case rel => exact ⟨d, a, b, c, rfl, rfl, rfl, VB, F6, ⟨rfl⟩⟩
  | false =>
   obtain ⟨k5, hk5, lk5, uk5⟩ := within_r d.a5 6 (by omega) (by omega)
   have HKk5 := Aside0.mk hk5
   obtain ⟨k6, hk6, lk6, uk6⟩ := within_r d.a6 3 (by omega) (by omega)
   have HKk6 := Aside0.mk hk6
   obtain ⟨k7, hk7, lk7, uk7⟩ := within_r d.a7 30 (by omega) (by omega)
   have HKk7 := Aside0.mk hk7
   obtain ⟨d1, e1⟩ : ∃ z, ({ d with a5 := k5 } : Dep) = z := ⟨_, rfl⟩
   have HZ1 := Aside0.mk (show (d.c v).setIfInBounds 5 (.int .i64 k5) = d1.c v by rw [← e1]; rfl)
   have s1 : d1.s = d.s := by rw [← e1]
   obtain ⟨d2, e2⟩ : ∃ z, ({ d1 with a6 := k6 } : Dep) = z := ⟨_, rfl⟩
   have HZ2 := Aside0.mk (show (d1.c v).setIfInBounds 6 (.int .i64 k6) = d2.c v by rw [← e2]; rfl)
   have s2 : d2.s = d1.s := by rw [← e2]
   obtain ⟨d3, e3⟩ : ∃ z, ({ d2 with a7 := k7 } : Dep) = z := ⟨_, rfl⟩
   have HZ3 := Aside0.mk (show (d2.c v).setIfInBounds 7 (.int .i64 k7) = d3.c v by rw [← e3]; rfl)
   have s3 : d3.s = d2.s := by rw [← e3]
   have e7 : d3.a7 = k7 := by rw [← e3]
   have n7 : wrap64 (d3.a7 + 1) = k7 + 1 := by rw [e7]; exact w_up (by omega) (by omega)
   obtain ⟨k8, hk8, _, _⟩ := within_r d3.a8 (wrap64 (d3.a7 + 1)) (by omega) (by omega)
   have HK8 := Aside0.mk hk8
   obtain ⟨d4, e4⟩ : ∃ z, ({ d3 with a8 := k8 } : Dep) = z := ⟨_, rfl⟩
   have HZ4 := Aside0.mk (show (d3.c v).setIfInBounds 8 (.int .i64 k8) = d4.c v by rw [← e4]; rfl)
   have s4 : d4.s = d3.s := by rw [← e4]
   obtain ⟨k4, hk4, lk4, uk4⟩ := within_r d4.a4 40 (by omega) (by omega)
   have HK4 := Aside0.mk hk4
   obtain ⟨d5, e5⟩ : ∃ z, ({ d4 with a4 := k4 } : Dep) = z := ⟨_, rfl⟩
   have HZ5 := Aside0.mk (show (d4.c v).setIfInBounds 4 (.int .i64 k4) = d5.c v by rw [← e5]; rfl)
   have s5 : d5.s = d4.s := by rw [← e5]
   obtain ⟨ka, hka, lka, uka⟩ := within_r a 3 (by omega) (by omega)
   have HKa := Aside0.mk hka
   obtain ⟨kb, hkb, lkb, ukb⟩ := within_r b 40 (by omega) (by omega)
   have HKb := Aside0.mk hkb
   obtain ⟨kc, hkc, lkc, ukc⟩ := within_r c 60 (by omega) (by omega)
   have HKc := Aside0.mk hkc
   have SS := Aside0.mk (show d5.s = d.s by rw [s5, s4, s3, s2, s1])
   clear hk5 hk6 hk7 hk8 hk4 hka hkb hkc lk5 lk6 lk7 lk4 lka lkb lkc uk5 uk6 uk7 uk4 uka ukb ukc e1 e2 e3 e4 e5 s1 s2 s3 s4 s5 e7 n7
   try go_wp2
   have T0 := Aside0.mk (F6.out.below (Below.refl _ _).drew)
   have B0 := Aside0.mk (below_below VB.out (Below.refl _ _).drew)
   clear F6 VB
   refine start_ (n := 15) (S := fun w' => w'.heap[g6]? = some (.cells (d.c v) 38 (0, 0))) (ds := [10, 12, 14]) (bmask 15 0) (by kernel_rfl) rfl (by kernel_rfl) T0.out.at_ (fun hHeld => ?_); refine with_tabW dep_tab2 dep_bits2 (fun HT_ HW_ => ?_)
   generalize w1.drew = q0 at T0 B0 hHeld ⊢
   refine pure_ (i := 0) (N := some 27) (v := ?_) (a' := ?_) (bmask 15 1) rfl rfl (any_of HT_.out (by kernel_rfl)) (fun _ _ _ h => h) (Or.inl ⟨by rfl, ?_⟩) ?_ ?_
   rotate_left
   ·
    intro w'
    go_simp
    with_reducible rfl
   rotate_left
   ·
    simp only [Act.put, List.setIfInBounds_toArray, List.set_cons_zero, List.set_cons_succ, i64_w, i32_w]
    rfl
   refine take_ (i := 1) (N := some 28) (v := .int .i64 d.a5) (a' := ?_) (bmask 15 3) rfl rfl (take_ofW HT_.out HW_.out (by kernel_rfl)) (fun _ _ _ h => h) (Or.inl ⟨by rfl, fun w' hs => by
     have hc : w'.cell? ⟨g6, 5, none⟩ = some (.int .i64 d.a5) := (cell_of_row w' g6 5 _ 38 (0, 0) hs).trans rfl
     go_simp⟩) hHeld ?_ ?_
   rotate_left
   ·
    simp only [Act.put, List.setIfInBounds_toArray, List.set_cons_zero, List.set_cons_succ, i64_w, i32_w]
    rfl
   refine pure_ (i := 3) (N := some 30) (v := ?_) (a' := ?_) (bmask 15 11) rfl rfl (any_of HT_.out (by kernel_rfl)) (fun _ _ _ h => h) (Or.inl ⟨by rfl, ?_⟩) ?_ ?_
   rotate_left
   ·
    intro w'
    go_simp
    with_reducible rfl
   rotate_left
   ·
    simp only [Act.put, List.setIfInBounds_toArray, List.set_cons_zero, List.set_cons_succ, i64_w, i32_w]
    rfl
   refine take_ (i := 4) (N := some 31) (v := .int .i64 d.a6) (a' := ?_) (bmask 15 27) rfl rfl (take_ofW HT_.out HW_.out (by kernel_rfl)) (fun _ _ _ h => h) (Or.inl ⟨by rfl, fun w' hs => by
     have hc : w'.cell? ⟨g6, 6, none⟩ = some (.int .i64 d.a6) := (cell_of_row w' g6 6 _ 38 (0, 0) hs).trans rfl
     go_simp⟩) hHeld ?_ ?_
   rotate_left
   ·
    simp only [Act.put, List.setIfInBounds_toArray, List.set_cons_zero, List.set_cons_succ, i64_w, i32_w]
    rfl
   refine pure_ (i := 6) (N := some 33) (v := ?_) (a' := ?_) (bmask 15 91) rfl rfl (any_of HT_.out (by kernel_rfl)) (fun _ _ _ h => h) (Or.inl ⟨by rfl, ?_⟩) ?_ ?_
   rotate_left
   ·
    intro w'
    go_simp
    with_reducible rfl
   rotate_left
   ·
    simp only [Act.put, List.setIfInBounds_toArray, List.set_cons_zero, List.set_cons_succ, i64_w, i32_w]
    rfl
   refine take_ (i := 7) (N := some 34) (v := .int .i64 d.a7) (a' := ?_) (bmask 15 219) rfl rfl (take_ofW HT_.out HW_.out (by kernel_rfl)) (fun _ _ _ h => h) (Or.inl ⟨by rfl, fun w' hs => by
     have hc : w'.cell? ⟨g6, 7, none⟩ = some (.int .i64 d.a7) := (cell_of_row w' g6 7 _ 38 (0, 0) hs).trans rfl
     go_simp⟩) hHeld ?_ ?_
   rotate_left
   ·
    simp only [Act.put, List.setIfInBounds_toArray, List.set_cons_zero, List.set_cons_succ, i64_w, i32_w]
    rfl
   refine one_ (i := 2) (N := some 29) (bmask 15 223) rfl rfl (one_of HT_.out (by kernel_rfl)) (by decide) (fun K hK => ?_)
   refine goes_ Tryd.func8 (by kernel_rfl) rfl #[.int .i64 d.a5, .int .i64 6] (by rfl) rfl rfl (by (try simp only [List.map_toArray, List.map_cons, List.map_nil]); first | done | rfl) ?_
   refine (customsmade_Within.calls d.a5 6 k5 q0 HKk5.out).mono ?_
   rintro e q1 ⟨rfl, hq⟩
   refine ⟨_, rfl, ?_⟩
   have hb := drawn0_below' hq
   have T1 := Aside0.mk (T0.out.below hb)
   have B1 := Aside0.mk (below_below B0.out hb)
   clear hq hb T0 B0
   refine hK.out _ _ (T1.out.at_) (fun hHeld => ?_)
   clear hK K
   refine norm_ (a' := ?_) ?_ ?_
   rotate_left
   ·
    show Act.put _ (some 29) _ = _
    simp only [Act.put, List.setIfInBounds_toArray, List.set_cons_zero, List.set_cons_succ, i64_w, i32_w]
    rfl
   refine pure_ (i := 9) (N := some 36) (v := ?_) (a' := ?_) (bmask 15 735) rfl rfl (any_of HT_.out (by kernel_rfl)) (fun _ _ _ h => h) (Or.inl ⟨by rfl, ?_⟩) ?_ ?_
   rotate_left
   ·
    intro w'
    go_simp
    with_reducible rfl
   rotate_left
   ·
    simp only [Act.put, List.setIfInBounds_toArray, List.set_cons_zero, List.set_cons_succ, i64_w, i32_w]
    rfl
   refine one_ (i := 5) (N := some 32) (bmask 15 767) rfl rfl (one_of HT_.out (by kernel_rfl)) (by decide) (fun K hK => ?_)
   refine goes_ Tryd.func8 (by kernel_rfl) rfl #[.int .i64 d.a6, .int .i64 3] (by rfl) rfl rfl (by (try simp only [List.map_toArray, List.map_cons, List.map_nil]); first | done | rfl) ?_
   refine (customsmade_Within.calls d.a6 3 k6 q1 HKk6.out).mono ?_
   rintro e q2 ⟨rfl, hq⟩
   refine ⟨_, rfl, ?_⟩
   have hb := drawn0_below' hq
   have T2 := Aside0.mk (T1.out.below hb)
   have B2 := Aside0.mk (below_below B1.out hb)
   clear hq hb T1 B1
   refine hK.out _ _ (T2.out.at_) (fun hHeld => ?_)
   clear hK K
   refine norm_ (a' := ?_) ?_ ?_
   rotate_left
   ·
    show Act.put _ (some 32) _ = _
    simp only [Act.put, List.setIfInBounds_toArray, List.set_cons_zero, List.set_cons_succ, i64_w, i32_w]
    rfl
   refine one_ (i := 8) (N := some 35) (bmask 15 1023) rfl rfl (one_of HT_.out (by kernel_rfl)) (by decide) (fun K hK => ?_)
   refine goes_ Tryd.func8 (by kernel_rfl) rfl #[.int .i64 d.a7, .int .i64 30] (by rfl) rfl rfl (by (try simp only [List.map_toArray, List.map_cons, List.map_nil]); first | done | rfl) ?_
   refine (customsmade_Within.calls d.a7 30 k7 q2 HKk7.out).mono ?_
   rintro e q3 ⟨rfl, hq⟩
   refine ⟨_, rfl, ?_⟩
   have hb := drawn0_below' hq
   have T3 := Aside0.mk (T2.out.below hb)
   have B3 := Aside0.mk (below_below B2.out hb)
   clear hq hb T2 B2
   refine hK.out _ _ (T3.out.at_) (fun hHeld => ?_)
   clear hK K
   refine norm_ (a' := ?_) ?_ ?_
   rotate_left
   ·
    show Act.put _ (some 35) _ = _
    simp only [Act.put, List.setIfInBounds_toArray, List.set_cons_zero, List.set_cons_succ, i64_w, i32_w]
    rfl
   have P0 := Aside0.mk T3.out.at_
   clear T3
   obtain ⟨p1, hr, hF⟩ := store_one P0.out 5 (by show 5 < 11; omega) (.int .i64 k5) rfl HZ1.out 3 (by kernel_rfl)
   have P1 := Aside0.mk hF.1
   have B4 := Aside0.mk ((Mv.of_below B3.out (fun _ => False)).then_ (Mv.same (fun i => i = g6) rfl hF.2) (fun i hi => .inr (by rw [hi]; exact GE.out)) |>.below (Nat.le_refl _) (fun _ hk => hk.elim))
   refine last_store (i := 10) (w1 := p1) (bmask 15 2047) rfl rfl (one_of HT_.out (by kernel_rfl)) (by decide) (by rfl) (exec_store rfl (q := .pointer (some ⟨g6, 5, none⟩)) (v := .int .i64 k5) rfl rfl hr) ?_
   clear hr hF P0 B3
   refine pure_ (i := 11) (N := some 37) (v := ?_) (a' := ?_) (bmask 15 4095) rfl rfl (any_of HT_.out (by kernel_rfl)) (fun _ _ _ h => h) (Or.inl ⟨by rfl, ?_⟩) ?_ ?_
   rotate_left
   ·
    intro w'
    go_simp
    with_reducible rfl
   rotate_left
   ·
    simp only [Act.put, List.setIfInBounds_toArray, List.set_cons_zero, List.set_cons_succ, i64_w, i32_w]
    rfl
   obtain ⟨p2, hr, hF⟩ := store_one P1.out 6 (by show 6 < 11; omega) (.int .i64 k6) rfl HZ2.out 3 (by kernel_rfl)
   have P2 := Aside0.mk hF.1
   have B5 := Aside0.mk ((Mv.of_below B4.out (fun _ => False)).then_ (Mv.same (fun i => i = g6) rfl hF.2) (fun i hi => .inr (by rw [hi]; exact GE.out)) |>.below (Nat.le_refl _) (fun _ hk => hk.elim))
   refine last_store (i := 12) (w1 := p2) (bmask 15 8191) rfl rfl (one_of HT_.out (by kernel_rfl)) (by decide) (by rfl) (exec_store rfl (q := .pointer (some ⟨g6, 6, none⟩)) (v := .int .i64 k6) rfl rfl hr) ?_
   clear hr hF P1 B4
   refine pure_ (i := 13) (N := some 38) (v := ?_) (a' := ?_) (bmask 15 16383) rfl rfl (any_of HT_.out (by kernel_rfl)) (fun _ _ _ h => h) (Or.inl ⟨by rfl, ?_⟩) ?_ ?_
   rotate_left
   ·
    intro w'
    go_simp
    with_reducible rfl
   rotate_left
   ·
    simp only [Act.put, List.setIfInBounds_toArray, List.set_cons_zero, List.set_cons_succ, i64_w, i32_w]
    rfl
   obtain ⟨p3, hr, hF⟩ := store_one P2.out 7 (by show 7 < 11; omega) (.int .i64 k7) rfl HZ3.out 3 (by kernel_rfl)
   have P3 := Aside0.mk hF.1
   have B6 := Aside0.mk ((Mv.of_below B5.out (fun _ => False)).then_ (Mv.same (fun i => i = g6) rfl hF.2) (fun i hi => .inr (by rw [hi]; exact GE.out)) |>.below (Nat.le_refl _) (fun _ hk => hk.elim))
   refine last_store (i := 14) (w1 := p3) (bmask 15 32767) rfl rfl (one_of HT_.out (by kernel_rfl)) (by decide) (by rfl) (exec_store rfl (q := .pointer (some ⟨g6, 7, none⟩)) (v := .int .i64 k7) rfl rfl hr) ?_
   clear hr hF P2 B5
   refine done_ (done_of HT_.out (by kernel_rfl)) ?_
   have M1 := Aside0.mk trivial
   have hc8 : p3.cell? ⟨g6, 8, none⟩ = some (.int .i64 d3.a8) := (cell_of_row p3 g6 8 _ 38 (0, 0) P3.out).trans rfl
   have hc7 : p3.cell? ⟨g6, 7, none⟩ = some (.int .i64 d3.a7) := (cell_of_row p3 g6 7 _ 38 (0, 0) P3.out).trans rfl
   go_wp2_with (first
    | (go_at_call 8; first | (have _q := M1.out; clear _q M1; refine (customsmade_Within.calls d3.a8 (wrap64 (d3.a7 + 1)) k8 p3 HK8.out).mono ?_; rintro e p4 ⟨rfl, hq⟩; have hb := drawn0_below' hq; have P4 := Aside0.mk (blk_below P3.out hb); have B7 := Aside0.mk (below_below B6.out hb); clear P3 B6 hc8 hc7; clear hq hb; have M2 := Aside0.mk trivial) | (have _q := M2.out; clear _q M2; refine (customsmade_Within.calls d4.a4 40 k4 p5 HK4.out).mono ?_; rintro e p6 ⟨rfl, hq⟩; have hb := drawn0_below' hq; have P6 := Aside0.mk (blk_below P5.out hb); have B9 := Aside0.mk (below_below B8.out hb); clear P5 B8 hc4; clear hq hb; have M3 := Aside0.mk trivial) | (have _q := M3.out; clear _q M3; refine (customsmade_Within.calls a 3 ka p7 HKa.out).mono ?_; rintro e p8 ⟨rfl, hq⟩; have hb := drawn0_below' hq; have P8 := Aside0.mk (blk_below P7.out hb); have B11 := Aside0.mk (below_below B10.out hb); clear P7 B10; clear hq hb; have M4 := Aside0.mk trivial) | (have _q := M4.out; clear _q M4; refine (customsmade_Within.calls b 40 kb p8 HKb.out).mono ?_; rintro e p9 ⟨rfl, hq⟩; have hb := drawn0_below' hq; have P9 := Aside0.mk (blk_below P8.out hb); have B12 := Aside0.mk (below_below B11.out hb); clear P8 B11; clear hq hb; have M5 := Aside0.mk trivial) | (have _q := M5.out; clear _q M5; refine (customsmade_Within.calls c 60 kc p9 HKc.out).mono ?_; rintro e p10 ⟨rfl, hq⟩; have hb := drawn0_below' hq; have P10 := Aside0.mk (blk_below P9.out hb); have B13 := Aside0.mk (below_below B12.out hb); clear P9 B12; clear hq hb; have M6 := Aside0.mk trivial))
    | ((with_reducible refine gate_store (t := 3) (p := 45) rfl ?_); refine ev_store rfl (ty := 3) (p := 45) rfl rfl (q := .pointer (some ⟨g6, 8, none⟩)) (v := .int .i64 k8) rfl rfl (store_one P4.out 8 (by show 8 < 11; omega) (.int .i64 k8) rfl HZ4.out 3 (by kernel_rfl)) ?_; intro p5 hF; have P5 := Aside0.mk hF.1; have B8 := Aside0.mk ((Mv.of_below B7.out (fun _ => False)).then_ (Mv.same (fun i => i = g6) rfl hF.2) (fun i hi => .inr (by rw [hi]; exact GE.out)) |>.below (Nat.le_refl _) (fun _ hk => hk.elim)); have hc4 : p5.cell? ⟨g6, 4, none⟩ = some (.int .i64 d4.a4) := (cell_of_row p5 g6 4 _ 38 (0, 0) P5.out).trans rfl; clear hF P4 B7)
    | ((with_reducible refine gate_store (t := 3) (p := 49) rfl ?_); refine ev_store rfl (ty := 3) (p := 49) rfl rfl (q := .pointer (some ⟨g6, 4, none⟩)) (v := .int .i64 k4) rfl rfl (store_one P6.out 4 (by show 4 < 11; omega) (.int .i64 k4) rfl HZ5.out 3 (by kernel_rfl)) ?_; intro p7 hF; have P7 := Aside0.mk hF.1; have B10 := Aside0.mk ((Mv.of_below B9.out (fun _ => False)).then_ (Mv.same (fun i => i = g6) rfl hF.2) (fun i hi => .inr (by rw [hi]; exact GE.out)) |>.below (Nat.le_refl _) (fun _ hk => hk.elim)); clear hF P6 B9))
   go_meet
   case rel => exact ⟨d5, ka, kb, kc, rfl, rfl, rfl, B13, ⟨⟨P10.out, (show Rd (Kd.int .i64) p10 v d5.s by rw [SS.out]; exact HD.out.below B13.out)⟩⟩, SS⟩
 case rest =>
  obtain ⟨z, a', b', c', rfl, rfl, rfl, VB, F6, SZ⟩ := hcut
  obtain ⟨rA, eA⟩ : ∃ r, adjB z b' = r := ⟨_, rfl⟩
  obtain ⟨rR, eR⟩ : ∃ r, resB z a' = r := ⟨_, rfl⟩
  obtain ⟨rM, eM⟩ : ∃ r, misB z = r := ⟨_, rfl⟩
  obtain ⟨rD, eD⟩ : ∃ r, decB z a' b' g = r := ⟨_, rfl⟩
  obtain ⟨rS, eS⟩ : ∃ r, staB a' b' c' z.a4 z.a6 z.a7 z.s = r := ⟨_, rfl⟩
  obtain ⟨ov, eO⟩ := HO.out z c'
  have EA := Aside0.mk eA
  have ER := Aside0.mk eR
  have EM := Aside0.mk eM
  have ED := Aside0.mk eD
  have ES := Aside0.mk eS
  have EO := Aside0.mk eO
  have hl : z.s.length ≤ 17592186043904 := by rw [SZ.out]; exact HLd.out
  have HL := Aside0.mk hl
  have LA : Aside0 (rA.1.s.length ≤ 17592186043904) := ⟨by rw [← eA, adjB_s]; exact hl⟩
  have LR : Aside0 (rR.1.s.length ≤ 17592186043904) := ⟨by rw [← eR, resB_s]; exact hl⟩
  have LM : Aside0 (rM.1.s.length ≤ 17592186043904) := ⟨by rw [← eM, misB_s]; exact hl⟩
  have LD : Aside0 (rD.s.length ≤ 17592186043904) := ⟨by rw [← eD, decB_s]; exact hl⟩
  have LS : Aside0 (rS.s.length ≤ 17592186043904) := ⟨by rw [← eS]; exact hl⟩
  clear eA eR eM eD eS eO hl
  go_wp2_with (first
   | ((with_reducible refine gate_dst (N := 57) rfl ?_); refine ev_load rfl (N := 57) rfl rfl (q := .pointer (some ⟨g6, 0, none⟩)) (v := .agg (z.c v)) rfl (load38 F6.out.at_) ?_)
   | (go_at_call 27; refine (tadj_r z b' rA EA.out F6.out.rd HL.out).mono ?_; rintro e wb13 ⟨u13, rfl, hr, hb⟩; have VB' := Aside0.mk (below_below VB.out hb); clear VB; have VB := VB'; clear VB'; have F6' := Aside0.mk (F6.out.below hb); clear F6; have F6 := F6'; clear F6'; have R := Aside0.mk hr; clear hr hb)
   | ((with_reducible refine gate_dst (N := 13) rfl ?_); refine box_event rfl (N := 13) rfl (cs := zeroD) (t := 38) ?hr ?_; (case hr => first | (go_simp; done) | (go_simp; rfl)); intro g13 hg w1 h1 b1; have PA := Aside0.mk (And.intro hg (And.intro h1 b1)); clear hg h1 b1)
   | ((with_reducible refine gate_store (t := 38) (p := 13) rfl ?_); refine ev_store rfl (ty := 38) (p := 13) rfl rfl (q := .pointer (some ⟨g13, 0, none⟩)) (v := .agg (rA.1.c u13)) rfl rfl (Vd.store PA.out.1 PA.out.2.1 PA.out.2.2 R.out) ?_; intro wa13 hF; have hb := hF.2; have VB' := Aside0.mk (below_below VB.out hb); clear VB; have VB := VB'; clear VB'; have F6' := Aside0.mk (F6.out.below hb); clear F6; have F6 := F6'; clear F6'; have F13 := Aside0.mk hF.1; clear hF hb PA R)
   | ((with_reducible refine gate_dst (N := 63) rfl ?_); refine ev_load rfl (N := 63) rfl rfl (q := .pointer (some ⟨g6, 0, none⟩)) (v := .agg (z.c v)) rfl (load38 F6.out.at_) ?_)
   | (go_at_call 28; refine (radj_r z b' rA EA.out F6.out.rd).mono ?_; rintro e wb15 ⟨u15, rfl, hr, hb⟩; have VB' := Aside0.mk (below_below VB.out hb); clear VB; have VB := VB'; clear VB'; have F6' := Aside0.mk (F6.out.below hb); clear F6; have F6 := F6'; clear F6'; have F13' := Aside0.mk (F13.out.below hb); clear F13; have F13 := F13'; clear F13'; have R := Aside0.mk hr; clear hr hb)
   | ((with_reducible refine gate_dst (N := 15) rfl ?_); refine box_event rfl (N := 15) rfl (cs := zeroD) (t := 38) ?hr ?_; (case hr => first | (go_simp; done) | (go_simp; rfl)); intro g15 hg w1 h1 b1; have PA := Aside0.mk (And.intro hg (And.intro h1 b1)); clear hg h1 b1)
   | ((with_reducible refine gate_store (t := 38) (p := 15) rfl ?_); refine ev_store rfl (ty := 38) (p := 15) rfl rfl (q := .pointer (some ⟨g15, 0, none⟩)) (v := .agg (rA.1.c u15)) rfl rfl (Vd.store PA.out.1 PA.out.2.1 PA.out.2.2 R.out) ?_; intro wa15 hF; have hb := hF.2; have VB' := Aside0.mk (below_below VB.out hb); clear VB; have VB := VB'; clear VB'; have F6' := Aside0.mk (F6.out.below hb); clear F6; have F6 := F6'; clear F6'; have F13' := Aside0.mk (F13.out.below hb); clear F13; have F13 := F13'; clear F13'; have F15 := Aside0.mk hF.1; clear hF hb PA R)
   | ((with_reducible refine gate_dst (N := 69) rfl ?_); refine ev_load rfl (N := 69) rfl rfl (q := .pointer (some ⟨g6, 0, none⟩)) (v := .agg (z.c v)) rfl (load38 F6.out.at_) ?_)
   | (go_at_call 29; refine (tres_r z a' rR ER.out F6.out.rd HL.out).mono ?_; rintro e wb17 ⟨u17, rfl, hr, hb⟩; have VB' := Aside0.mk (below_below VB.out hb); clear VB; have VB := VB'; clear VB'; have F6' := Aside0.mk (F6.out.below hb); clear F6; have F6 := F6'; clear F6'; have F13' := Aside0.mk (F13.out.below hb); clear F13; have F13 := F13'; clear F13'; have F15' := Aside0.mk (F15.out.below hb); clear F15; have F15 := F15'; clear F15'; have R := Aside0.mk hr; clear hr hb)
   | ((with_reducible refine gate_dst (N := 17) rfl ?_); refine box_event rfl (N := 17) rfl (cs := zeroD) (t := 38) ?hr ?_; (case hr => first | (go_simp; done) | (go_simp; rfl)); intro g17 hg w1 h1 b1; have PA := Aside0.mk (And.intro hg (And.intro h1 b1)); clear hg h1 b1)
   | ((with_reducible refine gate_store (t := 38) (p := 17) rfl ?_); refine ev_store rfl (ty := 38) (p := 17) rfl rfl (q := .pointer (some ⟨g17, 0, none⟩)) (v := .agg (rR.1.c u17)) rfl rfl (Vd.store PA.out.1 PA.out.2.1 PA.out.2.2 R.out) ?_; intro wa17 hF; have hb := hF.2; have VB' := Aside0.mk (below_below VB.out hb); clear VB; have VB := VB'; clear VB'; have F6' := Aside0.mk (F6.out.below hb); clear F6; have F6 := F6'; clear F6'; have F13' := Aside0.mk (F13.out.below hb); clear F13; have F13 := F13'; clear F13'; have F15' := Aside0.mk (F15.out.below hb); clear F15; have F15 := F15'; clear F15'; have F17 := Aside0.mk hF.1; clear hF hb PA R)
   | ((with_reducible refine gate_dst (N := 75) rfl ?_); refine ev_load rfl (N := 75) rfl rfl (q := .pointer (some ⟨g6, 0, none⟩)) (v := .agg (z.c v)) rfl (load38 F6.out.at_) ?_)
   | (go_at_call 30; refine (rres_r z a' rR ER.out F6.out.rd).mono ?_; rintro e wb19 ⟨u19, rfl, hr, hb⟩; have VB' := Aside0.mk (below_below VB.out hb); clear VB; have VB := VB'; clear VB'; have F6' := Aside0.mk (F6.out.below hb); clear F6; have F6 := F6'; clear F6'; have F13' := Aside0.mk (F13.out.below hb); clear F13; have F13 := F13'; clear F13'; have F15' := Aside0.mk (F15.out.below hb); clear F15; have F15 := F15'; clear F15'; have F17' := Aside0.mk (F17.out.below hb); clear F17; have F17 := F17'; clear F17'; have R := Aside0.mk hr; clear hr hb)
   | ((with_reducible refine gate_dst (N := 19) rfl ?_); refine box_event rfl (N := 19) rfl (cs := zeroD) (t := 38) ?hr ?_; (case hr => first | (go_simp; done) | (go_simp; rfl)); intro g19 hg w1 h1 b1; have PA := Aside0.mk (And.intro hg (And.intro h1 b1)); clear hg h1 b1)
   | ((with_reducible refine gate_store (t := 38) (p := 19) rfl ?_); refine ev_store rfl (ty := 38) (p := 19) rfl rfl (q := .pointer (some ⟨g19, 0, none⟩)) (v := .agg (rR.1.c u19)) rfl rfl (Vd.store PA.out.1 PA.out.2.1 PA.out.2.2 R.out) ?_; intro wa19 hF; have hb := hF.2; have VB' := Aside0.mk (below_below VB.out hb); clear VB; have VB := VB'; clear VB'; have F6' := Aside0.mk (F6.out.below hb); clear F6; have F6 := F6'; clear F6'; have F13' := Aside0.mk (F13.out.below hb); clear F13; have F13 := F13'; clear F13'; have F15' := Aside0.mk (F15.out.below hb); clear F15; have F15 := F15'; clear F15'; have F17' := Aside0.mk (F17.out.below hb); clear F17; have F17 := F17'; clear F17'; have F19 := Aside0.mk hF.1; clear hF hb PA R)
   | ((with_reducible refine gate_dst (N := 81) rfl ?_); refine ev_load rfl (N := 81) rfl rfl (q := .pointer (some ⟨g6, 0, none⟩)) (v := .agg (z.c v)) rfl (load38 F6.out.at_) ?_)
   | (go_at_call 31; refine (tmis_r z rM EM.out F6.out.rd HL.out).mono ?_; rintro e wb21 ⟨u21, rfl, hr, hb⟩; have VB' := Aside0.mk (below_below VB.out hb); clear VB; have VB := VB'; clear VB'; have F6' := Aside0.mk (F6.out.below hb); clear F6; have F6 := F6'; clear F6'; have F13' := Aside0.mk (F13.out.below hb); clear F13; have F13 := F13'; clear F13'; have F15' := Aside0.mk (F15.out.below hb); clear F15; have F15 := F15'; clear F15'; have F17' := Aside0.mk (F17.out.below hb); clear F17; have F17 := F17'; clear F17'; have F19' := Aside0.mk (F19.out.below hb); clear F19; have F19 := F19'; clear F19'; have R := Aside0.mk hr; clear hr hb)
   | ((with_reducible refine gate_dst (N := 21) rfl ?_); refine box_event rfl (N := 21) rfl (cs := zeroD) (t := 38) ?hr ?_; (case hr => first | (go_simp; done) | (go_simp; rfl)); intro g21 hg w1 h1 b1; have PA := Aside0.mk (And.intro hg (And.intro h1 b1)); clear hg h1 b1)
   | ((with_reducible refine gate_store (t := 38) (p := 21) rfl ?_); refine ev_store rfl (ty := 38) (p := 21) rfl rfl (q := .pointer (some ⟨g21, 0, none⟩)) (v := .agg (rM.1.c u21)) rfl rfl (Vd.store PA.out.1 PA.out.2.1 PA.out.2.2 R.out) ?_; intro wa21 hF; have hb := hF.2; have VB' := Aside0.mk (below_below VB.out hb); clear VB; have VB := VB'; clear VB'; have F6' := Aside0.mk (F6.out.below hb); clear F6; have F6 := F6'; clear F6'; have F13' := Aside0.mk (F13.out.below hb); clear F13; have F13 := F13'; clear F13'; have F15' := Aside0.mk (F15.out.below hb); clear F15; have F15 := F15'; clear F15'; have F17' := Aside0.mk (F17.out.below hb); clear F17; have F17 := F17'; clear F17'; have F19' := Aside0.mk (F19.out.below hb); clear F19; have F19 := F19'; clear F19'; have F21 := Aside0.mk hF.1; clear hF hb PA R)
   | ((with_reducible refine gate_dst (N := 86) rfl ?_); refine ev_load rfl (N := 86) rfl rfl (q := .pointer (some ⟨g6, 0, none⟩)) (v := .agg (z.c v)) rfl (load38 F6.out.at_) ?_)
   | (go_at_call 32; refine (rmis_r z rM EM.out F6.out.rd).mono ?_; rintro e wb23 ⟨u23, rfl, hr, hb⟩; have VB' := Aside0.mk (below_below VB.out hb); clear VB; have VB := VB'; clear VB'; have F6' := Aside0.mk (F6.out.below hb); clear F6; have F6 := F6'; clear F6'; have F13' := Aside0.mk (F13.out.below hb); clear F13; have F13 := F13'; clear F13'; have F15' := Aside0.mk (F15.out.below hb); clear F15; have F15 := F15'; clear F15'; have F17' := Aside0.mk (F17.out.below hb); clear F17; have F17 := F17'; clear F17'; have F19' := Aside0.mk (F19.out.below hb); clear F19; have F19 := F19'; clear F19'; have F21' := Aside0.mk (F21.out.below hb); clear F21; have F21 := F21'; clear F21'; have R := Aside0.mk hr; clear hr hb)
   | ((with_reducible refine gate_dst (N := 23) rfl ?_); refine box_event rfl (N := 23) rfl (cs := zeroD) (t := 38) ?hr ?_; (case hr => first | (go_simp; done) | (go_simp; rfl)); intro g23 hg w1 h1 b1; have PA := Aside0.mk (And.intro hg (And.intro h1 b1)); clear hg h1 b1)
   | ((with_reducible refine gate_store (t := 38) (p := 23) rfl ?_); refine ev_store rfl (ty := 38) (p := 23) rfl rfl (q := .pointer (some ⟨g23, 0, none⟩)) (v := .agg (rM.1.c u23)) rfl rfl (Vd.store PA.out.1 PA.out.2.1 PA.out.2.2 R.out) ?_; intro wa23 hF; have hb := hF.2; have VB' := Aside0.mk (below_below VB.out hb); clear VB; have VB := VB'; clear VB'; have F6' := Aside0.mk (F6.out.below hb); clear F6; have F6 := F6'; clear F6'; have F13' := Aside0.mk (F13.out.below hb); clear F13; have F13 := F13'; clear F13'; have F15' := Aside0.mk (F15.out.below hb); clear F15; have F15 := F15'; clear F15'; have F17' := Aside0.mk (F17.out.below hb); clear F17; have F17 := F17'; clear F17'; have F19' := Aside0.mk (F19.out.below hb); clear F19; have F19 := F19'; clear F19'; have F21' := Aside0.mk (F21.out.below hb); clear F21; have F21 := F21'; clear F21'; have F23 := Aside0.mk hF.1; clear hF hb PA R))
  have DA : Aside0 (DAll w wa23 g6 g13 g15 g17 g19 g21 g23 z rA.1 rR.1 rM.1 v u13 u15 u17 u19 u21 u23) := ⟨⟨VB.out, F6.out, F13.out, F15.out, F17.out, F19.out, F21.out, F23.out⟩⟩
  have DD := Aside0.mk (DA.out.below (Below.refl _ _).drew)
  clear VB F6 F13 F15 F17 F19 F21 F23 DA
  refine start_ (n := 83) (S := fun w' => DS w' g6 g13 g15 g17 g19 g21 g23 z rA.1 rR.1 rM.1 v u13 u15 u17 u19 u21 u23) (ds := []) (bmask 83 0) (by kernel_rfl) rfl (by kernel_rfl) DD.out.s (fun hHeld => ?_); refine with_tabW dep_tab12 dep_bits12 (fun HT_ HW_ => ?_)
  generalize wa23.drew = q0 at DD hHeld ⊢
  have D0 := DD
  clear DD
  refine take_ (i := 0) (N := some 90) (v := .agg (z.c v)) (a' := ?_) (bmask 83 1) rfl rfl (take_ofW HT_.out HW_.out (by kernel_rfl)) (fun _ _ _ h => h) (Or.inl ⟨by rfl, fun w' hs => by
    exact exec_load rfl (q := .pointer (some ⟨g6, 0, none⟩)) rfl (load38 hs.x6)⟩) hHeld ?_ ?_
  rotate_left
  ·
   simp only [Act.put, List.setIfInBounds_toArray, List.set_cons_zero, List.set_cons_succ, i64_w, i32_w]
   rfl
  refine pure_ (i := 1) (N := some 91) (v := ?_) (a' := ?_) (bmask 83 3) rfl rfl (any_of HT_.out (by kernel_rfl)) (fun _ _ _ h => h) (Or.inl ⟨by rfl, ?_⟩) ?_ ?_
  rotate_left
  ·
   intro w'
   go_simp
   with_reducible rfl
  rotate_left
  ·
   simp only [Act.put, List.setIfInBounds_toArray, List.set_cons_zero, List.set_cons_succ, i64_w, i32_w]
   rfl
  refine pure_ (i := 2) (N := some 92) (v := ?_) (a' := ?_) (bmask 83 7) rfl rfl (any_of HT_.out (by kernel_rfl)) (fun _ _ _ h => h) (Or.inl ⟨by rfl, ?_⟩) ?_ ?_
  rotate_left
  ·
   intro w'
   go_simp
   with_reducible rfl
  rotate_left
  ·
   simp only [Act.put, List.setIfInBounds_toArray, List.set_cons_zero, List.set_cons_succ, i64_w, i32_w]
   rfl
  refine pure_ (i := 3) (N := some 93) (v := ?_) (a' := ?_) (bmask 83 15) rfl rfl (any_of HT_.out (by kernel_rfl)) (fun _ _ _ h => h) (Or.inl ⟨by rfl, ?_⟩) ?_ ?_
  rotate_left
  ·
   intro w'
   go_simp
   with_reducible rfl
  rotate_left
  ·
   simp only [Act.put, List.setIfInBounds_toArray, List.set_cons_zero, List.set_cons_succ, i64_w, i32_w]
   rfl
  refine take_ (i := 5) (N := some 95) (v := .agg (z.c v)) (a' := ?_) (bmask 83 47) rfl rfl (take_ofW HT_.out HW_.out (by kernel_rfl)) (fun _ _ _ h => h) (Or.inl ⟨by rfl, fun w' hs => by
    exact exec_load rfl (q := .pointer (some ⟨g6, 0, none⟩)) rfl (load38 hs.x6)⟩) hHeld ?_ ?_
  rotate_left
  ·
   simp only [Act.put, List.setIfInBounds_toArray, List.set_cons_zero, List.set_cons_succ, i64_w, i32_w]
   rfl
  refine pure_ (i := 6) (N := some 96) (v := ?_) (a' := ?_) (bmask 83 111) rfl rfl (any_of HT_.out (by kernel_rfl)) (fun _ _ _ h => h) (Or.inl ⟨by rfl, ?_⟩) ?_ ?_
  rotate_left
  ·
   intro w'
   go_simp
   with_reducible rfl
  rotate_left
  ·
   simp only [Act.put, List.setIfInBounds_toArray, List.set_cons_zero, List.set_cons_succ, i64_w, i32_w]
   rfl
  refine pure_ (i := 7) (N := some 97) (v := ?_) (a' := ?_) (bmask 83 239) rfl rfl (any_of HT_.out (by kernel_rfl)) (fun _ _ _ h => h) (Or.inl ⟨by rfl, ?_⟩) ?_ ?_
  rotate_left
  ·
   intro w'
   go_simp
   with_reducible rfl
  rotate_left
  ·
   simp only [Act.put, List.setIfInBounds_toArray, List.set_cons_zero, List.set_cons_succ, i64_w, i32_w]
   rfl
  refine pure_ (i := 8) (N := some 98) (v := ?_) (a' := ?_) (bmask 83 495) rfl rfl (any_of HT_.out (by kernel_rfl)) (fun _ _ _ h => h) (Or.inl ⟨by rfl, ?_⟩) ?_ ?_
  rotate_left
  ·
   intro w'
   go_simp
   with_reducible rfl
  rotate_left
  ·
   simp only [Act.put, List.setIfInBounds_toArray, List.set_cons_zero, List.set_cons_succ, i64_w, i32_w]
   rfl
  refine one_ (i := 4) (N := some 94) (bmask 83 511) rfl rfl (one_of HT_.out (by kernel_rfl)) (by decide) (fun K hK => ?_)
  refine goes_ Tryd.func34 (by kernel_rfl) rfl #[.agg (z.c v), .int .i64 a', .int .i64 b', .bool g] (by rfl) rfl rfl (by (try simp only [List.map_toArray, List.map_cons, List.map_nil]); first | done | rfl) ?_
  refine (tdec_r z a' b' g rD ED.out D0.out.y6.rd HL.out).mono ?_
  rintro e q1 ⟨U1, rfl, hr, hb⟩
  refine ⟨_, rfl, ?_⟩
  have D1 := Aside0.mk (D0.out.below hb)
  have KU1_1 := Aside0.mk hr
  clear hr
  clear hb D0
  refine hK.out _ _ (D1.out.s) (fun hHeld => ?_)
  clear hK K
  refine norm_ (a' := ?_) ?_ ?_
  rotate_left
  ·
   show Act.put _ (some 94) _ = _
   simp only [Act.put, List.setIfInBounds_toArray, List.set_cons_zero, List.set_cons_succ, i64_w, i32_w]
   rfl
  refine one_ (i := 9) (N := some 99) (bmask 83 1023) rfl rfl (one_of HT_.out (by kernel_rfl)) (by decide) (fun K hK => ?_)
  refine goes_ Tryd.func35 (by kernel_rfl) rfl #[.agg (z.c v), .int .i64 a', .int .i64 b', .bool g] (by rfl) rfl rfl (by (try simp only [List.map_toArray, List.map_cons, List.map_nil]); first | done | rfl) ?_
  refine (rdec_r z a' b' g rD ED.out D1.out.y6.rd).mono ?_
  rintro e q2 ⟨U2, rfl, hr, hb⟩
  refine ⟨_, rfl, ?_⟩
  have D2 := Aside0.mk (D1.out.below hb)
  have KU1_2 := Aside0.mk (KU1_1.out.below hb)
  have KU2_2 := Aside0.mk hr
  clear hr
  clear hb D1 KU1_1
  refine hK.out _ _ (D2.out.s) (fun hHeld => ?_)
  clear hK K
  refine norm_ (a' := ?_) ?_ ?_
  rotate_left
  ·
   show Act.put _ (some 99) _ = _
   simp only [Act.put, List.setIfInBounds_toArray, List.set_cons_zero, List.set_cons_succ, i64_w, i32_w]
   rfl
  refine one_ (i := 10) (N := some 100) (bmask 83 2047) rfl rfl (one_of HT_.out (by kernel_rfl)) (by decide) (fun K hK => ?_)
  refine goes_ Tryd.func33 (by kernel_rfl) rfl #[.agg (rD.c U1), .agg (rD.c U2)] (by rfl) rfl rfl (by (try simp only [List.map_toArray, List.map_cons, List.map_nil]); first | done | rfl) ?_
  refine (sdep_w rD KU1_2.out KU2_2.out LD.out).mono ?_
  rintro e q3 ⟨rfl, hb⟩
  refine ⟨_, rfl, ?_⟩
  have D3 := Aside0.mk (D2.out.below hb)
  have KU1_3 := Aside0.mk (KU1_2.out.below hb)
  have KU2_3 := Aside0.mk (KU2_2.out.below hb)
  clear hb D2 KU1_2 KU2_2
  clear KU1_3 KU2_3
  refine hK.out _ _ (D3.out.s) (fun hHeld => ?_)
  clear hK K
  refine norm_ (a' := ?_) ?_ ?_
  rotate_left
  ·
   show Act.put _ (some 100) _ = _
   simp only [Act.put, List.setIfInBounds_toArray, List.set_cons_zero, List.set_cons_succ, i64_w, i32_w]
   rfl
  refine pure_ (i := 11) (N := some 101) (v := ?_) (a' := ?_) (bmask 83 4095) rfl rfl (any_of HT_.out (by kernel_rfl)) (fun _ _ _ h => h) (Or.inl ⟨by rfl, ?_⟩) ?_ ?_
  rotate_left
  ·
   intro w'
   go_simp
   with_reducible rfl
  rotate_left
  ·
   simp only [Act.put, List.setIfInBounds_toArray, List.set_cons_zero, List.set_cons_succ, i64_w, i32_w]
   rfl
  refine take_ (i := 12) (N := some 102) (v := .agg (rA.1.c u13)) (a' := ?_) (bmask 83 8191) rfl rfl (take_ofW HT_.out HW_.out (by kernel_rfl)) (fun _ _ _ h => h) (Or.inl ⟨by rfl, fun w' hs => by
    exact exec_load rfl (q := .pointer (some ⟨g13, 0, none⟩)) rfl (load38 hs.x13)⟩) hHeld ?_ ?_
  rotate_left
  ·
   simp only [Act.put, List.setIfInBounds_toArray, List.set_cons_zero, List.set_cons_succ, i64_w, i32_w]
   rfl
  refine take_ (i := 13) (N := some 103) (v := .agg (rA.1.c u15)) (a' := ?_) (bmask 83 16383) rfl rfl (take_ofW HT_.out HW_.out (by kernel_rfl)) (fun _ _ _ h => h) (Or.inl ⟨by rfl, fun w' hs => by
    exact exec_load rfl (q := .pointer (some ⟨g15, 0, none⟩)) rfl (load38 hs.x15)⟩) hHeld ?_ ?_
  rotate_left
  ·
   simp only [Act.put, List.setIfInBounds_toArray, List.set_cons_zero, List.set_cons_succ, i64_w, i32_w]
   rfl
  refine one_ (i := 14) (N := some 104) (bmask 83 32767) rfl rfl (one_of HT_.out (by kernel_rfl)) (by decide) (fun K hK => ?_)
  refine goes_ Tryd.func33 (by kernel_rfl) rfl #[.agg (rA.1.c u13), .agg (rA.1.c u15)] (by rfl) rfl rfl (by (try simp only [List.map_toArray, List.map_cons, List.map_nil]); first | done | rfl) ?_
  refine (sdep_w rA.1 D3.out.y13.rd D3.out.y15.rd LA.out).mono ?_
  rintro e q4 ⟨rfl, hb⟩
  refine ⟨_, rfl, ?_⟩
  have D4 := Aside0.mk (D3.out.below hb)
  clear hb D3
  refine hK.out _ _ (D4.out.s) (fun hHeld => ?_)
  clear hK K
  refine norm_ (a' := ?_) ?_ ?_
  rotate_left
  ·
   show Act.put _ (some 104) _ = _
   simp only [Act.put, List.setIfInBounds_toArray, List.set_cons_zero, List.set_cons_succ, i64_w, i32_w]
   rfl
  refine pure_ (i := 15) (N := some 105) (v := ?_) (a' := ?_) (bmask 83 65535) rfl rfl (any_of HT_.out (by kernel_rfl)) (fun _ _ _ h => h) (Or.inl ⟨by rfl, ?_⟩) ?_ ?_
  rotate_left
  ·
   intro w'
   go_simp
   with_reducible rfl
  rotate_left
  ·
   simp only [Act.put, List.setIfInBounds_toArray, List.set_cons_zero, List.set_cons_succ, i64_w, i32_w]
   rfl
  refine pure_ (i := 16) (N := some 106) (v := ?_) (a' := ?_) (bmask 83 131071) rfl rfl (any_of HT_.out (by kernel_rfl)) (fun _ _ _ h => h) (Or.inl ⟨by rfl, ?_⟩) ?_ ?_
  rotate_left
  ·
   intro w'
   go_simp
   with_reducible rfl
  rotate_left
  ·
   simp only [Act.put, List.setIfInBounds_toArray, List.set_cons_zero, List.set_cons_succ, i64_w, i32_w]
   rfl
  refine pure_ (i := 17) (N := some 107) (v := ?_) (a' := ?_) (bmask 83 262143) rfl rfl (any_of HT_.out (by kernel_rfl)) (fun _ _ _ h => h) (Or.inl ⟨by rfl, ?_⟩) ?_ ?_
  rotate_left
  ·
   intro w'
   go_simp
   with_reducible rfl
  rotate_left
  ·
   simp only [Act.put, List.setIfInBounds_toArray, List.set_cons_zero, List.set_cons_succ, i64_w, i32_w]
   rfl
  refine pure_ (i := 18) (N := some 108) (v := ?_) (a' := ?_) (bmask 83 524287) rfl rfl (any_of HT_.out (by kernel_rfl)) (fun _ _ _ h => h) (Or.inl ⟨by rfl, ?_⟩) ?_ ?_
  rotate_left
  ·
   intro w'
   go_simp
   with_reducible rfl
  rotate_left
  ·
   simp only [Act.put, List.setIfInBounds_toArray, List.set_cons_zero, List.set_cons_succ, i64_w, i32_w]
   rfl
  refine pure_ (i := 19) (N := some 109) (v := ?_) (a' := ?_) (bmask 83 1048575) rfl rfl (any_of HT_.out (by kernel_rfl)) (fun _ _ _ h => h) (Or.inl ⟨by rfl, ?_⟩) ?_ ?_
  rotate_left
  ·
   intro w'
   go_simp
   with_reducible rfl
  rotate_left
  ·
   simp only [Act.put, List.setIfInBounds_toArray, List.set_cons_zero, List.set_cons_succ, i64_w, i32_w]
   rfl
  refine pure_ (i := 20) (N := some 110) (v := ?_) (a' := ?_) (bmask 83 2097151) rfl rfl (any_of HT_.out (by kernel_rfl)) (fun _ _ _ h => h) (Or.inl ⟨by rfl, ?_⟩) ?_ ?_
  rotate_left
  ·
   intro w'
   go_simp
   with_reducible rfl
  rotate_left
  ·
   simp only [Act.put, List.setIfInBounds_toArray, List.set_cons_zero, List.set_cons_succ, i64_w, i32_w]
   rfl
  refine pure_ (i := 21) (N := some 111) (v := ?_) (a' := ?_) (bmask 83 4194303) rfl rfl (any_of HT_.out (by kernel_rfl)) (fun _ _ _ h => h) (Or.inl ⟨by rfl, ?_⟩) ?_ ?_
  rotate_left
  ·
   intro w'
   go_simp
   with_reducible rfl
  rotate_left
  ·
   simp only [Act.put, List.setIfInBounds_toArray, List.set_cons_zero, List.set_cons_succ, i64_w, i32_w]
   rfl
  refine take_ (i := 22) (N := some 112) (v := .agg (rR.1.c u17)) (a' := ?_) (bmask 83 8388607) rfl rfl (take_ofW HT_.out HW_.out (by kernel_rfl)) (fun _ _ _ h => h) (Or.inl ⟨by rfl, fun w' hs => by
    exact exec_load rfl (q := .pointer (some ⟨g17, 0, none⟩)) rfl (load38 hs.x17)⟩) hHeld ?_ ?_
  rotate_left
  ·
   simp only [Act.put, List.setIfInBounds_toArray, List.set_cons_zero, List.set_cons_succ, i64_w, i32_w]
   rfl
  refine take_ (i := 23) (N := some 113) (v := .agg (rR.1.c u19)) (a' := ?_) (bmask 83 16777215) rfl rfl (take_ofW HT_.out HW_.out (by kernel_rfl)) (fun _ _ _ h => h) (Or.inl ⟨by rfl, fun w' hs => by
    exact exec_load rfl (q := .pointer (some ⟨g19, 0, none⟩)) rfl (load38 hs.x19)⟩) hHeld ?_ ?_
  rotate_left
  ·
   simp only [Act.put, List.setIfInBounds_toArray, List.set_cons_zero, List.set_cons_succ, i64_w, i32_w]
   rfl
  refine one_ (i := 24) (N := some 114) (bmask 83 33554431) rfl rfl (one_of HT_.out (by kernel_rfl)) (by decide) (fun K hK => ?_)
  refine goes_ Tryd.func33 (by kernel_rfl) rfl #[.agg (rR.1.c u17), .agg (rR.1.c u19)] (by rfl) rfl rfl (by (try simp only [List.map_toArray, List.map_cons, List.map_nil]); first | done | rfl) ?_
  refine (sdep_w rR.1 D4.out.y17.rd D4.out.y19.rd LR.out).mono ?_
  rintro e q5 ⟨rfl, hb⟩
  refine ⟨_, rfl, ?_⟩
  have D5 := Aside0.mk (D4.out.below hb)
  clear hb D4
  refine hK.out _ _ (D5.out.s) (fun hHeld => ?_)
  clear hK K
  refine norm_ (a' := ?_) ?_ ?_
  rotate_left
  ·
   show Act.put _ (some 114) _ = _
   simp only [Act.put, List.setIfInBounds_toArray, List.set_cons_zero, List.set_cons_succ, i64_w, i32_w]
   rfl
  refine pure_ (i := 25) (N := some 115) (v := ?_) (a' := ?_) (bmask 83 67108863) rfl rfl (any_of HT_.out (by kernel_rfl)) (fun _ _ _ h => h) (Or.inl ⟨by rfl, ?_⟩) ?_ ?_
  rotate_left
  ·
   intro w'
   go_simp
   with_reducible rfl
  rotate_left
  ·
   simp only [Act.put, List.setIfInBounds_toArray, List.set_cons_zero, List.set_cons_succ, i64_w, i32_w]
   rfl
  refine pure_ (i := 26) (N := some 116) (v := ?_) (a' := ?_) (bmask 83 134217727) rfl rfl (any_of HT_.out (by kernel_rfl)) (fun _ _ _ h => h) (Or.inl ⟨by rfl, ?_⟩) ?_ ?_
  rotate_left
  ·
   intro w'
   go_simp
   with_reducible rfl
  rotate_left
  ·
   simp only [Act.put, List.setIfInBounds_toArray, List.set_cons_zero, List.set_cons_succ, i64_w, i32_w]
   rfl
  refine pure_ (i := 27) (N := some 117) (v := ?_) (a' := ?_) (bmask 83 268435455) rfl rfl (any_of HT_.out (by kernel_rfl)) (fun _ _ _ h => h) (Or.inl ⟨by rfl, ?_⟩) ?_ ?_
  rotate_left
  ·
   intro w'
   go_simp
   with_reducible rfl
  rotate_left
  ·
   simp only [Act.put, List.setIfInBounds_toArray, List.set_cons_zero, List.set_cons_succ, i64_w, i32_w]
   rfl
  refine pure_ (i := 28) (N := some 118) (v := ?_) (a' := ?_) (bmask 83 536870911) rfl rfl (any_of HT_.out (by kernel_rfl)) (fun _ _ _ h => h) (Or.inl ⟨by rfl, ?_⟩) ?_ ?_
  rotate_left
  ·
   intro w'
   go_simp
   with_reducible rfl
  rotate_left
  ·
   simp only [Act.put, List.setIfInBounds_toArray, List.set_cons_zero, List.set_cons_succ, i64_w, i32_w]
   rfl
  refine pure_ (i := 29) (N := some 119) (v := ?_) (a' := ?_) (bmask 83 1073741823) rfl rfl (any_of HT_.out (by kernel_rfl)) (fun _ _ _ h => h) (Or.inl ⟨by rfl, ?_⟩) ?_ ?_
  rotate_left
  ·
   intro w'
   go_simp
   with_reducible rfl
  rotate_left
  ·
   simp only [Act.put, List.setIfInBounds_toArray, List.set_cons_zero, List.set_cons_succ, i64_w, i32_w]
   rfl
  refine pure_ (i := 30) (N := some 120) (v := ?_) (a' := ?_) (bmask 83 2147483647) rfl rfl (any_of HT_.out (by kernel_rfl)) (fun _ _ _ h => h) (Or.inl ⟨by rfl, ?_⟩) ?_ ?_
  rotate_left
  ·
   intro w'
   go_simp
   with_reducible rfl
  rotate_left
  ·
   simp only [Act.put, List.setIfInBounds_toArray, List.set_cons_zero, List.set_cons_succ, i64_w, i32_w]
   rfl
  refine pure_ (i := 31) (N := some 121) (v := ?_) (a' := ?_) (bmask 83 4294967295) rfl rfl (any_of HT_.out (by kernel_rfl)) (fun _ _ _ h => h) (Or.inl ⟨by rfl, ?_⟩) ?_ ?_
  rotate_left
  ·
   intro w'
   go_simp
   with_reducible rfl
  rotate_left
  ·
   simp only [Act.put, List.setIfInBounds_toArray, List.set_cons_zero, List.set_cons_succ, i64_w, i32_w]
   rfl
  refine take_ (i := 32) (N := some 122) (v := .agg (rM.1.c u21)) (a' := ?_) (bmask 83 8589934591) rfl rfl (take_ofW HT_.out HW_.out (by kernel_rfl)) (fun _ _ _ h => h) (Or.inl ⟨by rfl, fun w' hs => by
    exact exec_load rfl (q := .pointer (some ⟨g21, 0, none⟩)) rfl (load38 hs.x21)⟩) hHeld ?_ ?_
  rotate_left
  ·
   simp only [Act.put, List.setIfInBounds_toArray, List.set_cons_zero, List.set_cons_succ, i64_w, i32_w]
   rfl
  refine take_ (i := 33) (N := some 123) (v := .agg (rM.1.c u23)) (a' := ?_) (bmask 83 17179869183) rfl rfl (take_ofW HT_.out HW_.out (by kernel_rfl)) (fun _ _ _ h => h) (Or.inl ⟨by rfl, fun w' hs => by
    exact exec_load rfl (q := .pointer (some ⟨g23, 0, none⟩)) rfl (load38 hs.x23)⟩) hHeld ?_ ?_
  rotate_left
  ·
   simp only [Act.put, List.setIfInBounds_toArray, List.set_cons_zero, List.set_cons_succ, i64_w, i32_w]
   rfl
  refine one_ (i := 34) (N := some 124) (bmask 83 34359738367) rfl rfl (one_of HT_.out (by kernel_rfl)) (by decide) (fun K hK => ?_)
  refine goes_ Tryd.func33 (by kernel_rfl) rfl #[.agg (rM.1.c u21), .agg (rM.1.c u23)] (by rfl) rfl rfl (by (try simp only [List.map_toArray, List.map_cons, List.map_nil]); first | done | rfl) ?_
  refine (sdep_w rM.1 D5.out.y21.rd D5.out.y23.rd LM.out).mono ?_
  rintro e q6 ⟨rfl, hb⟩
  refine ⟨_, rfl, ?_⟩
  have D6 := Aside0.mk (D5.out.below hb)
  clear hb D5
  refine hK.out _ _ (D6.out.s) (fun hHeld => ?_)
  clear hK K
  refine norm_ (a' := ?_) ?_ ?_
  rotate_left
  ·
   show Act.put _ (some 124) _ = _
   simp only [Act.put, List.setIfInBounds_toArray, List.set_cons_zero, List.set_cons_succ, i64_w, i32_w]
   rfl
  refine pure_ (i := 35) (N := some 125) (v := ?_) (a' := ?_) (bmask 83 68719476735) rfl rfl (any_of HT_.out (by kernel_rfl)) (fun _ _ _ h => h) (Or.inl ⟨by rfl, ?_⟩) ?_ ?_
  rotate_left
  ·
   intro w'
   go_simp
   with_reducible rfl
  rotate_left
  ·
   simp only [Act.put, List.setIfInBounds_toArray, List.set_cons_zero, List.set_cons_succ, i64_w, i32_w]
   rfl
  refine pure_ (i := 36) (N := some 126) (v := ?_) (a' := ?_) (bmask 83 137438953471) rfl rfl (any_of HT_.out (by kernel_rfl)) (fun _ _ _ h => h) (Or.inl ⟨by rfl, ?_⟩) ?_ ?_
  rotate_left
  ·
   intro w'
   go_simp
   with_reducible rfl
  rotate_left
  ·
   simp only [Act.put, List.setIfInBounds_toArray, List.set_cons_zero, List.set_cons_succ, i64_w, i32_w]
   rfl
  refine pure_ (i := 37) (N := some 127) (v := ?_) (a' := ?_) (bmask 83 274877906943) rfl rfl (any_of HT_.out (by kernel_rfl)) (fun _ _ _ h => h) (Or.inl ⟨by rfl, ?_⟩) ?_ ?_
  rotate_left
  ·
   intro w'
   go_simp
   with_reducible rfl
  rotate_left
  ·
   simp only [Act.put, List.setIfInBounds_toArray, List.set_cons_zero, List.set_cons_succ, i64_w, i32_w]
   rfl
  refine pure_ (i := 38) (N := some 128) (v := ?_) (a' := ?_) (bmask 83 549755813887) rfl rfl (any_of HT_.out (by kernel_rfl)) (fun _ _ _ h => h) (Or.inl ⟨by rfl, ?_⟩) ?_ ?_
  rotate_left
  ·
   intro w'
   go_simp
   with_reducible rfl
  rotate_left
  ·
   simp only [Act.put, List.setIfInBounds_toArray, List.set_cons_zero, List.set_cons_succ, i64_w, i32_w]
   rfl
  refine pure_ (i := 39) (N := some 129) (v := ?_) (a' := ?_) (bmask 83 1099511627775) rfl rfl (any_of HT_.out (by kernel_rfl)) (fun _ _ _ h => h) (Or.inl ⟨by rfl, ?_⟩) ?_ ?_
  rotate_left
  ·
   intro w'
   go_simp
   with_reducible rfl
  rotate_left
  ·
   simp only [Act.put, List.setIfInBounds_toArray, List.set_cons_zero, List.set_cons_succ, i64_w, i32_w]
   rfl
  refine pure_ (i := 40) (N := some 130) (v := ?_) (a' := ?_) (bmask 83 2199023255551) rfl rfl (any_of HT_.out (by kernel_rfl)) (fun _ _ _ h => h) (Or.inl ⟨by rfl, ?_⟩) ?_ ?_
  rotate_left
  ·
   intro w'
   go_simp
   with_reducible rfl
  rotate_left
  ·
   simp only [Act.put, List.setIfInBounds_toArray, List.set_cons_zero, List.set_cons_succ, i64_w, i32_w]
   rfl
  refine pure_ (i := 41) (N := some 131) (v := ?_) (a' := ?_) (bmask 83 4398046511103) rfl rfl (any_of HT_.out (by kernel_rfl)) (fun _ _ _ h => h) (Or.inl ⟨by rfl, ?_⟩) ?_ ?_
  rotate_left
  ·
   intro w'
   go_simp
   with_reducible rfl
  rotate_left
  ·
   simp only [Act.put, List.setIfInBounds_toArray, List.set_cons_zero, List.set_cons_succ, i64_w, i32_w]
   rfl
  refine take_ (i := 42) (N := some 132) (v := .agg (z.c v)) (a' := ?_) (bmask 83 8796093022207) rfl rfl (take_ofW HT_.out HW_.out (by kernel_rfl)) (fun _ _ _ h => h) (Or.inl ⟨by rfl, fun w' hs => by
    exact exec_load rfl (q := .pointer (some ⟨g6, 0, none⟩)) rfl (load38 hs.x6)⟩) hHeld ?_ ?_
  rotate_left
  ·
   simp only [Act.put, List.setIfInBounds_toArray, List.set_cons_zero, List.set_cons_succ, i64_w, i32_w]
   rfl
  refine pure_ (i := 43) (N := some 133) (v := ?_) (a' := ?_) (bmask 83 17592186044415) rfl rfl (any_of HT_.out (by kernel_rfl)) (fun _ _ _ h => h) (Or.inl ⟨by rfl, ?_⟩) ?_ ?_
  rotate_left
  ·
   intro w'
   go_simp
   with_reducible rfl
  rotate_left
  ·
   simp only [Act.put, List.setIfInBounds_toArray, List.set_cons_zero, List.set_cons_succ, i64_w, i32_w]
   rfl
  refine take_ (i := 46) (N := some 136) (v := .agg (z.c v)) (a' := ?_) (bmask 83 87960930222079) rfl rfl (take_ofW HT_.out HW_.out (by kernel_rfl)) (fun _ _ _ h => h) (Or.inl ⟨by rfl, fun w' hs => by
    exact exec_load rfl (q := .pointer (some ⟨g6, 0, none⟩)) rfl (load38 hs.x6)⟩) hHeld ?_ ?_
  rotate_left
  ·
   simp only [Act.put, List.setIfInBounds_toArray, List.set_cons_zero, List.set_cons_succ, i64_w, i32_w]
   rfl
  refine pure_ (i := 47) (N := some 137) (v := ?_) (a' := ?_) (bmask 83 228698418577407) rfl rfl (any_of HT_.out (by kernel_rfl)) (fun _ _ _ h => h) (Or.inl ⟨by rfl, ?_⟩) ?_ ?_
  rotate_left
  ·
   intro w'
   go_simp
   with_reducible rfl
  rotate_left
  ·
   simp only [Act.put, List.setIfInBounds_toArray, List.set_cons_zero, List.set_cons_succ, i64_w, i32_w]
   rfl
  refine join_ (σ := Value × Value) 33 (bmask 83 1125899906842623) (fun s_ => [(134, s_.1), (135, .bool ov), (138, s_.2), (139, .bool ov)]) (fun s_ w' => DAll w w' g6 g13 g15 g17 g19 g21 g23 z rA.1 rR.1 rM.1 v u13 u15 u17 u19 u21 u23) ?_ ?_
  rotate_left
  ·
   intro hCont
   refine two_ (i := 44) (j := 48) (Ni := some 134) (Nj := some 138) (bmask 83 246290604621823) (bmask 83 510173395288063) rfl rfl rfl rfl (two_of HT_.out (by kernel_rfl)) (by decide) (by decide) (fun K hK => ?_) (fun K hK => ?_)
   ·
    refine lit_step (N := some 134) (cs := #[.int .i64 3, .int .i64 10]) (t := 3) (n := 2) (by rfl) rfl ?hr ?_
    (case hr => first | (go_simp; done) | (go_simp; rfl))
    intro b44 hbg q7 hL hb
    have D7 := Aside0.mk (D6.out.below hb)
    have L44_7 := Aside0.mk hL
    clear hbg hL hb D6
    refine hK.out _ _ D7.out.s (fun hHeld => ?_)
    clear hK K
    refine norm_ (a' := ?_) ?_ ?_
    rotate_left
    ·
     show Act.put _ (some 134) _ = _
     simp only [Act.put, List.setIfInBounds_toArray, List.set_cons_zero, List.set_cons_succ, i64_w, i32_w]
     rfl
    refine two_ (i := 45) (j := 48) (Ni := some 135) (Nj := some 138) (bmask 83 281474976710655) (bmask 83 527765581332479) rfl rfl rfl rfl (two_of HT_.out (by kernel_rfl)) (by decide) (by decide) (fun K hK => ?_) (fun K hK => ?_)
    ·
     refine goes_ Tryd.func36 (by kernel_rfl) rfl #[.agg (z.c v), .int .i64 c', .slice (some ⟨b44, 0, none⟩) 2 2] (by rfl) rfl rfl (by (try simp only [List.map_toArray, List.map_cons, List.map_nil]); first | done | rfl) ?_
     refine (tover_r z c' ov EO.out D7.out.y6.rd L44_7.out (HG1.out.of_below D7.out.b)).mono ?_
     rintro e q8 ⟨rfl, hb⟩
     refine ⟨_, rfl, ?_⟩
     have D8 := Aside0.mk (D7.out.below hb)
     have L44_8 := Aside0.mk (blk_below L44_7.out hb)
     clear hb D7 L44_7
     clear L44_8
     refine hK.out _ _ (D8.out.s) (fun hHeld => ?_)
     clear hK K
     refine norm_ (a' := ?_) ?_ ?_
     rotate_left
     ·
      show Act.put _ (some 135) _ = _
      simp only [Act.put, List.setIfInBounds_toArray, List.set_cons_zero, List.set_cons_succ, i64_w, i32_w]
      rfl
     refine one_ (i := 48) (N := some 138) (bmask 83 562949953421311) rfl rfl (one_of HT_.out (by kernel_rfl)) (by decide) (fun K hK => ?_)
     refine lit_step (N := some 138) (cs := #[.int .i64 3, .int .i64 10]) (t := 3) (n := 2) (by rfl) rfl ?hr ?_
     (case hr => first | (go_simp; done) | (go_simp; rfl))
     intro b48 hbg q9 hL hb
     have D9 := Aside0.mk (D8.out.below hb)
     have L48_9 := Aside0.mk hL
     clear hbg hL hb D8
     refine hK.out _ _ D9.out.s (fun hHeld => ?_)
     clear hK K
     refine norm_ (a' := ?_) ?_ ?_
     rotate_left
     ·
      show Act.put _ (some 138) _ = _
      simp only [Act.put, List.setIfInBounds_toArray, List.set_cons_zero, List.set_cons_succ, i64_w, i32_w]
      rfl
     refine one_ (i := 49) (N := some 139) (bmask 83 1125899906842623) rfl rfl (one_of HT_.out (by kernel_rfl)) (by decide) (fun K hK => ?_)
     refine goes_ Tryd.func37 (by kernel_rfl) rfl #[.agg (z.c v), .int .i64 c', .slice (some ⟨b48, 0, none⟩) 2 2] (by rfl) rfl rfl (by (try simp only [List.map_toArray, List.map_cons, List.map_nil]); first | done | rfl) ?_
     refine (rover_r z c' ov EO.out D9.out.y6.rd L48_9.out).mono ?_
     rintro e q10 ⟨rfl, hb⟩
     refine ⟨_, rfl, ?_⟩
     have D10 := Aside0.mk (D9.out.below hb)
     have L48_10 := Aside0.mk (blk_below L48_9.out hb)
     clear hb D9 L48_9
     clear L48_10
     refine hK.out _ _ (D10.out.s) (fun hHeld => ?_)
     clear hK K
     refine norm_ (a' := ?_) ?_ ?_
     rotate_left
     ·
      show Act.put _ (some 139) _ = _
      simp only [Act.put, List.setIfInBounds_toArray, List.set_cons_zero, List.set_cons_succ, i64_w, i32_w]
      rfl
     exact norm_ (by simp only [putAll, Act.put, List.setIfInBounds_toArray, List.set_cons_zero, List.set_cons_succ]) (hCont (.slice (some ⟨b44, 0, none⟩) 2 2, .slice (some ⟨b48, 0, none⟩) 2 2) _ D10.out)
    ·
     refine lit_step (N := some 138) (cs := #[.int .i64 3, .int .i64 10]) (t := 3) (n := 2) (by rfl) rfl ?hr ?_
     (case hr => first | (go_simp; done) | (go_simp; rfl))
     intro b48 hbg q8 hL hb
     have D8 := Aside0.mk (D7.out.below hb)
     have L44_8 := Aside0.mk (blk_below L44_7.out hb)
     have L48_8 := Aside0.mk hL
     clear hbg hL hb D7 L44_7
     refine hK.out _ _ D8.out.s (fun hHeld => ?_)
     clear hK K
     refine norm_ (a' := ?_) ?_ ?_
     rotate_left
     ·
      show Act.put _ (some 138) _ = _
      simp only [Act.put, List.setIfInBounds_toArray, List.set_cons_zero, List.set_cons_succ, i64_w, i32_w]
      rfl
     refine one_ (i := 45) (N := some 135) (bmask 83 562949953421311) rfl rfl (one_of HT_.out (by kernel_rfl)) (by decide) (fun K hK => ?_)
     refine goes_ Tryd.func36 (by kernel_rfl) rfl #[.agg (z.c v), .int .i64 c', .slice (some ⟨b44, 0, none⟩) 2 2] (by rfl) rfl rfl (by (try simp only [List.map_toArray, List.map_cons, List.map_nil]); first | done | rfl) ?_
     refine (tover_r z c' ov EO.out D8.out.y6.rd L44_8.out (HG1.out.of_below D8.out.b)).mono ?_
     rintro e q9 ⟨rfl, hb⟩
     refine ⟨_, rfl, ?_⟩
     have D9 := Aside0.mk (D8.out.below hb)
     have L44_9 := Aside0.mk (blk_below L44_8.out hb)
     have L48_9 := Aside0.mk (blk_below L48_8.out hb)
     clear hb D8 L44_8 L48_8
     clear L44_9
     refine hK.out _ _ (D9.out.s) (fun hHeld => ?_)
     clear hK K
     refine norm_ (a' := ?_) ?_ ?_
     rotate_left
     ·
      show Act.put _ (some 135) _ = _
      simp only [Act.put, List.setIfInBounds_toArray, List.set_cons_zero, List.set_cons_succ, i64_w, i32_w]
      rfl
     refine one_ (i := 49) (N := some 139) (bmask 83 1125899906842623) rfl rfl (one_of HT_.out (by kernel_rfl)) (by decide) (fun K hK => ?_)
     refine goes_ Tryd.func37 (by kernel_rfl) rfl #[.agg (z.c v), .int .i64 c', .slice (some ⟨b48, 0, none⟩) 2 2] (by rfl) rfl rfl (by (try simp only [List.map_toArray, List.map_cons, List.map_nil]); first | done | rfl) ?_
     refine (rover_r z c' ov EO.out D9.out.y6.rd L48_9.out).mono ?_
     rintro e q10 ⟨rfl, hb⟩
     refine ⟨_, rfl, ?_⟩
     have D10 := Aside0.mk (D9.out.below hb)
     have L48_10 := Aside0.mk (blk_below L48_9.out hb)
     clear hb D9 L48_9
     clear L48_10
     refine hK.out _ _ (D10.out.s) (fun hHeld => ?_)
     clear hK K
     refine norm_ (a' := ?_) ?_ ?_
     rotate_left
     ·
      show Act.put _ (some 139) _ = _
      simp only [Act.put, List.setIfInBounds_toArray, List.set_cons_zero, List.set_cons_succ, i64_w, i32_w]
      rfl
     exact norm_ (by simp only [putAll, Act.put, List.setIfInBounds_toArray, List.set_cons_zero, List.set_cons_succ]) (hCont (.slice (some ⟨b44, 0, none⟩) 2 2, .slice (some ⟨b48, 0, none⟩) 2 2) _ D10.out)
   ·
    refine lit_step (N := some 138) (cs := #[.int .i64 3, .int .i64 10]) (t := 3) (n := 2) (by rfl) rfl ?hr ?_
    (case hr => first | (go_simp; done) | (go_simp; rfl))
    intro b48 hbg q7 hL hb
    have D7 := Aside0.mk (D6.out.below hb)
    have L48_7 := Aside0.mk hL
    clear hbg hL hb D6
    refine hK.out _ _ D7.out.s (fun hHeld => ?_)
    clear hK K
    refine norm_ (a' := ?_) ?_ ?_
    rotate_left
    ·
     show Act.put _ (some 138) _ = _
     simp only [Act.put, List.setIfInBounds_toArray, List.set_cons_zero, List.set_cons_succ, i64_w, i32_w]
     rfl
    refine one_ (i := 44) (N := some 134) (bmask 83 527765581332479) rfl rfl (one_of HT_.out (by kernel_rfl)) (by decide) (fun K hK => ?_)
    refine lit_step (N := some 134) (cs := #[.int .i64 3, .int .i64 10]) (t := 3) (n := 2) (by rfl) rfl ?hr ?_
    (case hr => first | (go_simp; done) | (go_simp; rfl))
    intro b44 hbg q8 hL hb
    have D8 := Aside0.mk (D7.out.below hb)
    have L48_8 := Aside0.mk (blk_below L48_7.out hb)
    have L44_8 := Aside0.mk hL
    clear hbg hL hb D7 L48_7
    refine hK.out _ _ D8.out.s (fun hHeld => ?_)
    clear hK K
    refine norm_ (a' := ?_) ?_ ?_
    rotate_left
    ·
     show Act.put _ (some 134) _ = _
     simp only [Act.put, List.setIfInBounds_toArray, List.set_cons_zero, List.set_cons_succ, i64_w, i32_w]
     rfl
    refine one_ (i := 45) (N := some 135) (bmask 83 562949953421311) rfl rfl (one_of HT_.out (by kernel_rfl)) (by decide) (fun K hK => ?_)
    refine goes_ Tryd.func36 (by kernel_rfl) rfl #[.agg (z.c v), .int .i64 c', .slice (some ⟨b44, 0, none⟩) 2 2] (by rfl) rfl rfl (by (try simp only [List.map_toArray, List.map_cons, List.map_nil]); first | done | rfl) ?_
    refine (tover_r z c' ov EO.out D8.out.y6.rd L44_8.out (HG1.out.of_below D8.out.b)).mono ?_
    rintro e q9 ⟨rfl, hb⟩
    refine ⟨_, rfl, ?_⟩
    have D9 := Aside0.mk (D8.out.below hb)
    have L48_9 := Aside0.mk (blk_below L48_8.out hb)
    have L44_9 := Aside0.mk (blk_below L44_8.out hb)
    clear hb D8 L48_8 L44_8
    clear L44_9
    refine hK.out _ _ (D9.out.s) (fun hHeld => ?_)
    clear hK K
    refine norm_ (a' := ?_) ?_ ?_
    rotate_left
    ·
     show Act.put _ (some 135) _ = _
     simp only [Act.put, List.setIfInBounds_toArray, List.set_cons_zero, List.set_cons_succ, i64_w, i32_w]
     rfl
    refine one_ (i := 49) (N := some 139) (bmask 83 1125899906842623) rfl rfl (one_of HT_.out (by kernel_rfl)) (by decide) (fun K hK => ?_)
    refine goes_ Tryd.func37 (by kernel_rfl) rfl #[.agg (z.c v), .int .i64 c', .slice (some ⟨b48, 0, none⟩) 2 2] (by rfl) rfl rfl (by (try simp only [List.map_toArray, List.map_cons, List.map_nil]); first | done | rfl) ?_
    refine (rover_r z c' ov EO.out D9.out.y6.rd L48_9.out).mono ?_
    rintro e q10 ⟨rfl, hb⟩
    refine ⟨_, rfl, ?_⟩
    have D10 := Aside0.mk (D9.out.below hb)
    have L48_10 := Aside0.mk (blk_below L48_9.out hb)
    clear hb D9 L48_9
    clear L48_10
    refine hK.out _ _ (D10.out.s) (fun hHeld => ?_)
    clear hK K
    refine norm_ (a' := ?_) ?_ ?_
    rotate_left
    ·
     show Act.put _ (some 139) _ = _
     simp only [Act.put, List.setIfInBounds_toArray, List.set_cons_zero, List.set_cons_succ, i64_w, i32_w]
     rfl
    exact norm_ (by simp only [putAll, Act.put, List.setIfInBounds_toArray, List.set_cons_zero, List.set_cons_succ]) (hCont (.slice (some ⟨b44, 0, none⟩) 2 2, .slice (some ⟨b48, 0, none⟩) 2 2) _ D10.out)
  rintro ⟨s1, s2⟩ q50 hT
  have D50 := Aside0.mk hT
  clear hT D6
  refine norm_ (a' := ?_) ?_ ?_
  rotate_left
  ·
   simp only [putAll, Act.put, List.setIfInBounds_toArray, List.set_cons_zero, List.set_cons_succ]
   rfl
  have hHeld := D50.out.s
  refine pure_ (i := 50) (N := some 140) (v := ?_) (a' := ?_) (bmask 83 2251799813685247) rfl rfl (any_of HT_.out (by kernel_rfl)) (fun _ _ _ h => h) (Or.inl ⟨by rfl, ?_⟩) ?_ ?_
  rotate_left
  ·
   intro w'
   go_simp
   with_reducible rfl
  rotate_left
  ·
   simp only [Act.put, List.setIfInBounds_toArray, List.set_cons_zero, List.set_cons_succ, i64_w, i32_w]
   rfl
  refine pure_ (i := 51) (N := some 141) (v := ?_) (a' := ?_) (bmask 83 4503599627370495) rfl rfl (any_of HT_.out (by kernel_rfl)) (fun _ _ _ h => h) (Or.inl ⟨by rfl, ?_⟩) ?_ ?_
  rotate_left
  ·
   intro w'
   go_simp
   with_reducible rfl
  rotate_left
  ·
   simp only [Act.put, List.setIfInBounds_toArray, List.set_cons_zero, List.set_cons_succ, i64_w, i32_w]
   rfl
  refine pure_ (i := 52) (N := some 142) (v := ?_) (a' := ?_) (bmask 83 9007199254740991) rfl rfl (any_of HT_.out (by kernel_rfl)) (fun _ _ _ h => h) (Or.inl ⟨by rfl, ?_⟩) ?_ ?_
  rotate_left
  ·
   intro w'
   go_simp
   with_reducible rfl
  rotate_left
  ·
   simp only [Act.put, List.setIfInBounds_toArray, List.set_cons_zero, List.set_cons_succ, i64_w, i32_w]
   rfl
  refine pure_ (i := 53) (N := some 143) (v := ?_) (a' := ?_) (bmask 83 18014398509481983) rfl rfl (any_of HT_.out (by kernel_rfl)) (fun _ _ _ h => h) (Or.inl ⟨by rfl, ?_⟩) ?_ ?_
  rotate_left
  ·
   intro w'
   go_simp
   with_reducible rfl
  rotate_left
  ·
   simp only [Act.put, List.setIfInBounds_toArray, List.set_cons_zero, List.set_cons_succ, i64_w, i32_w]
   rfl
  refine pure_ (i := 54) (N := some 144) (v := ?_) (a' := ?_) (bmask 83 36028797018963967) rfl rfl (any_of HT_.out (by kernel_rfl)) (fun _ _ _ h => h) (Or.inl ⟨by rfl, ?_⟩) ?_ ?_
  rotate_left
  ·
   intro w'
   go_simp
   with_reducible rfl
  rotate_left
  ·
   simp only [Act.put, List.setIfInBounds_toArray, List.set_cons_zero, List.set_cons_succ, i64_w, i32_w]
   rfl
  refine pure_ (i := 55) (N := some 145) (v := ?_) (a' := ?_) (bmask 83 72057594037927935) rfl rfl (any_of HT_.out (by kernel_rfl)) (fun _ _ _ h => h) (Or.inl ⟨by rfl, ?_⟩) ?_ ?_
  rotate_left
  ·
   intro w'
   go_simp
   with_reducible rfl
  rotate_left
  ·
   simp only [Act.put, List.setIfInBounds_toArray, List.set_cons_zero, List.set_cons_succ, i64_w, i32_w]
   rfl
  refine pure_ (i := 56) (N := some 146) (v := ?_) (a' := ?_) (bmask 83 144115188075855871) rfl rfl (any_of HT_.out (by kernel_rfl)) (fun _ _ _ h => h) (Or.inl ⟨by rfl, ?_⟩) ?_ ?_
  rotate_left
  ·
   intro w'
   go_simp
   with_reducible rfl
  rotate_left
  ·
   simp only [Act.put, List.setIfInBounds_toArray, List.set_cons_zero, List.set_cons_succ, i64_w, i32_w]
   rfl
  refine take_ (i := 57) (N := some 147) (v := .int .i64 z.a4) (a' := ?_) (bmask 83 288230376151711743) rfl rfl (take_ofW HT_.out HW_.out (by kernel_rfl)) (fun _ _ _ h => h) (Or.inl ⟨by rfl, fun w' hs => by
    have hc : w'.cell? ⟨g6, 4, none⟩ = some (.int .i64 z.a4) := (cell_of_row w' g6 4 _ 38 (0, 0) hs.x6).trans rfl
    go_simp⟩) hHeld ?_ ?_
  rotate_left
  ·
   simp only [Act.put, List.setIfInBounds_toArray, List.set_cons_zero, List.set_cons_succ, i64_w, i32_w]
   rfl
  refine pure_ (i := 58) (N := some 148) (v := ?_) (a' := ?_) (bmask 83 576460752303423487) rfl rfl (any_of HT_.out (by kernel_rfl)) (fun _ _ _ h => h) (Or.inl ⟨by rfl, ?_⟩) ?_ ?_
  rotate_left
  ·
   intro w'
   go_simp
   with_reducible rfl
  rotate_left
  ·
   simp only [Act.put, List.setIfInBounds_toArray, List.set_cons_zero, List.set_cons_succ, i64_w, i32_w]
   rfl
  refine take_ (i := 59) (N := some 149) (v := .int .i64 z.a6) (a' := ?_) (bmask 83 1152921504606846975) rfl rfl (take_ofW HT_.out HW_.out (by kernel_rfl)) (fun _ _ _ h => h) (Or.inl ⟨by rfl, fun w' hs => by
    have hc : w'.cell? ⟨g6, 6, none⟩ = some (.int .i64 z.a6) := (cell_of_row w' g6 6 _ 38 (0, 0) hs.x6).trans rfl
    go_simp⟩) hHeld ?_ ?_
  rotate_left
  ·
   simp only [Act.put, List.setIfInBounds_toArray, List.set_cons_zero, List.set_cons_succ, i64_w, i32_w]
   rfl
  refine pure_ (i := 60) (N := some 150) (v := ?_) (a' := ?_) (bmask 83 2305843009213693951) rfl rfl (any_of HT_.out (by kernel_rfl)) (fun _ _ _ h => h) (Or.inl ⟨by rfl, ?_⟩) ?_ ?_
  rotate_left
  ·
   intro w'
   go_simp
   with_reducible rfl
  rotate_left
  ·
   simp only [Act.put, List.setIfInBounds_toArray, List.set_cons_zero, List.set_cons_succ, i64_w, i32_w]
   rfl
  refine take_ (i := 61) (N := some 151) (v := .int .i64 z.a7) (a' := ?_) (bmask 83 4611686018427387903) rfl rfl (take_ofW HT_.out HW_.out (by kernel_rfl)) (fun _ _ _ h => h) (Or.inl ⟨by rfl, fun w' hs => by
    have hc : w'.cell? ⟨g6, 7, none⟩ = some (.int .i64 z.a7) := (cell_of_row w' g6 7 _ 38 (0, 0) hs.x6).trans rfl
    go_simp⟩) hHeld ?_ ?_
  rotate_left
  ·
   simp only [Act.put, List.setIfInBounds_toArray, List.set_cons_zero, List.set_cons_succ, i64_w, i32_w]
   rfl
  refine pure_ (i := 62) (N := some 152) (v := ?_) (a' := ?_) (bmask 83 9223372036854775807) rfl rfl (any_of HT_.out (by kernel_rfl)) (fun _ _ _ h => h) (Or.inl ⟨by rfl, ?_⟩) ?_ ?_
  rotate_left
  ·
   intro w'
   go_simp
   with_reducible rfl
  rotate_left
  ·
   simp only [Act.put, List.setIfInBounds_toArray, List.set_cons_zero, List.set_cons_succ, i64_w, i32_w]
   rfl
  refine take_ (i := 63) (N := some 153) (v := v) (a' := ?_) (bmask 83 18446744073709551615) rfl rfl (take_ofW HT_.out HW_.out (by kernel_rfl)) (fun _ _ _ h => h) (Or.inl ⟨by rfl, fun w' hs => by
    have hc : w'.cell? ⟨g6, 10, none⟩ = some (v) := (cell_of_row w' g6 10 _ 38 (0, 0) hs.x6).trans rfl
    go_simp⟩) hHeld ?_ ?_
  rotate_left
  ·
   simp only [Act.put, List.setIfInBounds_toArray, List.set_cons_zero, List.set_cons_succ, i64_w, i32_w]
   rfl
  refine pure_ (i := 65) (N := some 155) (v := ?_) (a' := ?_) (bmask 83 55340232221128654847) rfl rfl (any_of HT_.out (by kernel_rfl)) (fun _ _ _ h => h) (Or.inl ⟨by rfl, ?_⟩) ?_ ?_
  rotate_left
  ·
   intro w'
   go_simp
   with_reducible rfl
  rotate_left
  ·
   simp only [Act.put, List.setIfInBounds_toArray, List.set_cons_zero, List.set_cons_succ, i64_w, i32_w]
   rfl
  refine pure_ (i := 66) (N := some 156) (v := ?_) (a' := ?_) (bmask 83 129127208515966861311) rfl rfl (any_of HT_.out (by kernel_rfl)) (fun _ _ _ h => h) (Or.inl ⟨by rfl, ?_⟩) ?_ ?_
  rotate_left
  ·
   intro w'
   go_simp
   with_reducible rfl
  rotate_left
  ·
   simp only [Act.put, List.setIfInBounds_toArray, List.set_cons_zero, List.set_cons_succ, i64_w, i32_w]
   rfl
  refine pure_ (i := 67) (N := some 157) (v := ?_) (a' := ?_) (bmask 83 276701161105643274239) rfl rfl (any_of HT_.out (by kernel_rfl)) (fun _ _ _ h => h) (Or.inl ⟨by rfl, ?_⟩) ?_ ?_
  rotate_left
  ·
   intro w'
   go_simp
   with_reducible rfl
  rotate_left
  ·
   simp only [Act.put, List.setIfInBounds_toArray, List.set_cons_zero, List.set_cons_succ, i64_w, i32_w]
   rfl
  refine pure_ (i := 68) (N := some 158) (v := ?_) (a' := ?_) (bmask 83 571849066284996100095) rfl rfl (any_of HT_.out (by kernel_rfl)) (fun _ _ _ h => h) (Or.inl ⟨by rfl, ?_⟩) ?_ ?_
  rotate_left
  ·
   intro w'
   go_simp
   with_reducible rfl
  rotate_left
  ·
   simp only [Act.put, List.setIfInBounds_toArray, List.set_cons_zero, List.set_cons_succ, i64_w, i32_w]
   rfl
  refine take_ (i := 69) (N := some 159) (v := .int .i64 z.a4) (a' := ?_) (bmask 83 1162144876643701751807) rfl rfl (take_ofW HT_.out HW_.out (by kernel_rfl)) (fun _ _ _ h => h) (Or.inl ⟨by rfl, fun w' hs => by
    have hc : w'.cell? ⟨g6, 4, none⟩ = some (.int .i64 z.a4) := (cell_of_row w' g6 4 _ 38 (0, 0) hs.x6).trans rfl
    go_simp⟩) hHeld ?_ ?_
  rotate_left
  ·
   simp only [Act.put, List.setIfInBounds_toArray, List.set_cons_zero, List.set_cons_succ, i64_w, i32_w]
   rfl
  refine pure_ (i := 70) (N := some 160) (v := ?_) (a' := ?_) (bmask 83 2342736497361113055231) rfl rfl (any_of HT_.out (by kernel_rfl)) (fun _ _ _ h => h) (Or.inl ⟨by rfl, ?_⟩) ?_ ?_
  rotate_left
  ·
   intro w'
   go_simp
   with_reducible rfl
  rotate_left
  ·
   simp only [Act.put, List.setIfInBounds_toArray, List.set_cons_zero, List.set_cons_succ, i64_w, i32_w]
   rfl
  refine take_ (i := 71) (N := some 161) (v := .int .i64 z.a6) (a' := ?_) (bmask 83 4703919738795935662079) rfl rfl (take_ofW HT_.out HW_.out (by kernel_rfl)) (fun _ _ _ h => h) (Or.inl ⟨by rfl, fun w' hs => by
    have hc : w'.cell? ⟨g6, 6, none⟩ = some (.int .i64 z.a6) := (cell_of_row w' g6 6 _ 38 (0, 0) hs.x6).trans rfl
    go_simp⟩) hHeld ?_ ?_
  rotate_left
  ·
   simp only [Act.put, List.setIfInBounds_toArray, List.set_cons_zero, List.set_cons_succ, i64_w, i32_w]
   rfl
  refine pure_ (i := 72) (N := some 162) (v := ?_) (a' := ?_) (bmask 83 9426286221665580875775) rfl rfl (any_of HT_.out (by kernel_rfl)) (fun _ _ _ h => h) (Or.inl ⟨by rfl, ?_⟩) ?_ ?_
  rotate_left
  ·
   intro w'
   go_simp
   with_reducible rfl
  rotate_left
  ·
   simp only [Act.put, List.setIfInBounds_toArray, List.set_cons_zero, List.set_cons_succ, i64_w, i32_w]
   rfl
  refine take_ (i := 73) (N := some 163) (v := .int .i64 z.a7) (a' := ?_) (bmask 83 18871019187404871303167) rfl rfl (take_ofW HT_.out HW_.out (by kernel_rfl)) (fun _ _ _ h => h) (Or.inl ⟨by rfl, fun w' hs => by
    have hc : w'.cell? ⟨g6, 7, none⟩ = some (.int .i64 z.a7) := (cell_of_row w' g6 7 _ 38 (0, 0) hs.x6).trans rfl
    go_simp⟩) hHeld ?_ ?_
  rotate_left
  ·
   simp only [Act.put, List.setIfInBounds_toArray, List.set_cons_zero, List.set_cons_succ, i64_w, i32_w]
   rfl
  refine pure_ (i := 74) (N := some 164) (v := ?_) (a' := ?_) (bmask 83 37760485118883452157951) rfl rfl (any_of HT_.out (by kernel_rfl)) (fun _ _ _ h => h) (Or.inl ⟨by rfl, ?_⟩) ?_ ?_
  rotate_left
  ·
   intro w'
   go_simp
   with_reducible rfl
  rotate_left
  ·
   simp only [Act.put, List.setIfInBounds_toArray, List.set_cons_zero, List.set_cons_succ, i64_w, i32_w]
   rfl
  refine take_ (i := 75) (N := some 165) (v := v) (a' := ?_) (bmask 83 75539416981840613867519) rfl rfl (take_ofW HT_.out HW_.out (by kernel_rfl)) (fun _ _ _ h => h) (Or.inl ⟨by rfl, fun w' hs => by
    have hc : w'.cell? ⟨g6, 10, none⟩ = some (v) := (cell_of_row w' g6 10 _ 38 (0, 0) hs.x6).trans rfl
    go_simp⟩) hHeld ?_ ?_
  rotate_left
  ·
   simp only [Act.put, List.setIfInBounds_toArray, List.set_cons_zero, List.set_cons_succ, i64_w, i32_w]
   rfl
  refine one_ (i := 64) (N := some 154) (bmask 83 75557863725914323419135) rfl rfl (one_of HT_.out (by kernel_rfl)) (by decide) (fun K hK => ?_)
  refine goes_ Tryd.func38 (by kernel_rfl) rfl #[.int .i64 a', .int .i64 b', .int .i64 c', .int .i64 z.a4, .int .i64 z.a6, .int .i64 z.a7, v] (by rfl) rfl rfl (by (try simp only [List.map_toArray, List.map_cons, List.map_nil]); first | done | rfl) ?_
  refine (tsta_r a' b' c' z.a4 z.a6 z.a7 z.s rS ES.out D50.out.y6.rd HL.out).mono ?_
  rintro e q51 ⟨U5, rfl, hr, hb⟩
  refine ⟨_, rfl, ?_⟩
  have D51 := Aside0.mk (D50.out.below hb)
  have KU5_51 := Aside0.mk hr
  clear hr
  clear hb D50
  refine hK.out _ _ (D51.out.s) (fun hHeld => ?_)
  clear hK K
  refine norm_ (a' := ?_) ?_ ?_
  rotate_left
  ·
   show Act.put _ (some 154) _ = _
   simp only [Act.put, List.setIfInBounds_toArray, List.set_cons_zero, List.set_cons_succ, i64_w, i32_w]
   rfl
  refine one_ (i := 76) (N := some 166) (bmask 83 151115727451828646838271) rfl rfl (one_of HT_.out (by kernel_rfl)) (by decide) (fun K hK => ?_)
  refine goes_ Tryd.func39 (by kernel_rfl) rfl #[.int .i64 a', .int .i64 b', .int .i64 c', .int .i64 z.a4, .int .i64 z.a6, .int .i64 z.a7, v] (by rfl) rfl rfl (by (try simp only [List.map_toArray, List.map_cons, List.map_nil]); first | done | rfl) ?_
  refine (rsta_r a' b' c' z.a4 z.a6 z.a7 z.s rS ES.out D51.out.y6.rd).mono ?_
  rintro e q52 ⟨U6, rfl, hr, hb⟩
  refine ⟨_, rfl, ?_⟩
  have D52 := Aside0.mk (D51.out.below hb)
  have KU5_52 := Aside0.mk (KU5_51.out.below hb)
  have KU6_52 := Aside0.mk hr
  clear hr
  clear hb D51 KU5_51
  refine hK.out _ _ (D52.out.s) (fun hHeld => ?_)
  clear hK K
  refine norm_ (a' := ?_) ?_ ?_
  rotate_left
  ·
   show Act.put _ (some 166) _ = _
   simp only [Act.put, List.setIfInBounds_toArray, List.set_cons_zero, List.set_cons_succ, i64_w, i32_w]
   rfl
  refine one_ (i := 77) (N := some 167) (bmask 83 302231454903657293676543) rfl rfl (one_of HT_.out (by kernel_rfl)) (by decide) (fun K hK => ?_)
  refine goes_ Tryd.func33 (by kernel_rfl) rfl #[.agg (rS.c U5), .agg (rS.c U6)] (by rfl) rfl rfl (by (try simp only [List.map_toArray, List.map_cons, List.map_nil]); first | done | rfl) ?_
  refine (sdep_w rS KU5_52.out KU6_52.out LS.out).mono ?_
  rintro e q53 ⟨rfl, hb⟩
  refine ⟨_, rfl, ?_⟩
  have D53 := Aside0.mk (D52.out.below hb)
  have KU5_53 := Aside0.mk (KU5_52.out.below hb)
  have KU6_53 := Aside0.mk (KU6_52.out.below hb)
  clear hb D52 KU5_52 KU6_52
  clear KU5_53 KU6_53
  refine hK.out _ _ (D53.out.s) (fun hHeld => ?_)
  clear hK K
  refine norm_ (a' := ?_) ?_ ?_
  rotate_left
  ·
   show Act.put _ (some 167) _ = _
   simp only [Act.put, List.setIfInBounds_toArray, List.set_cons_zero, List.set_cons_succ, i64_w, i32_w]
   rfl
  refine pure_ (i := 78) (N := some 168) (v := ?_) (a' := ?_) (bmask 83 604462909807314587353087) rfl rfl (any_of HT_.out (by kernel_rfl)) (fun _ _ _ h => h) (Or.inl ⟨by rfl, ?_⟩) ?_ ?_
  rotate_left
  ·
   intro w'
   go_simp
   with_reducible rfl
  rotate_left
  ·
   simp only [Act.put, List.setIfInBounds_toArray, List.set_cons_zero, List.set_cons_succ, i64_w, i32_w]
   rfl
  refine pure_ (i := 79) (N := some 169) (v := ?_) (a' := ?_) (bmask 83 1208925819614629174706175) rfl rfl (any_of HT_.out (by kernel_rfl)) (fun _ _ _ h => h) (Or.inl ⟨by rfl, ?_⟩) ?_ ?_
  rotate_left
  ·
   intro w'
   go_simp
   with_reducible rfl
  rotate_left
  ·
   simp only [Act.put, List.setIfInBounds_toArray, List.set_cons_zero, List.set_cons_succ, i64_w, i32_w]
   rfl
  refine one_ (i := 80) (N := some 170) (bmask 83 2417851639229258349412351) rfl rfl (one_of HT_.out (by kernel_rfl)) (by decide) (fun K hK => ?_)
  refine goes_ Tryd.func16 (by kernel_rfl) rfl #[] (by rfl) rfl rfl (by (try simp only [List.map_toArray, List.map_cons, List.map_nil]); first | done | rfl) ?_
  refine (awake_calls _ (HG2.out.of_below D53.out.b)).mono ?_
  rintro e q54 ⟨rfl, hb⟩
  refine ⟨_, rfl, ?_⟩
  have D54 := Aside0.mk (D53.out.below hb)
  clear hb D53
  refine hK.out _ _ (D54.out.s) (fun hHeld => ?_)
  clear hK K
  refine norm_ (a' := ?_) ?_ ?_
  rotate_left
  ·
   show Act.put _ (some 170) _ = _
   simp only [Act.put, List.setIfInBounds_toArray, List.set_cons_zero, List.set_cons_succ, i64_w, i32_w]
   rfl
  refine pure_ (i := 81) (N := some 171) (v := ?_) (a' := ?_) (bmask 83 4835703278458516698824703) rfl rfl (any_of HT_.out (by kernel_rfl)) (fun _ _ _ h => h) (Or.inl ⟨by rfl, ?_⟩) ?_ ?_
  rotate_left
  ·
   intro w'
   go_simp
   with_reducible rfl
  rotate_left
  ·
   simp only [Act.put, List.setIfInBounds_toArray, List.set_cons_zero, List.set_cons_succ, i64_w, i32_w]
   rfl
  refine pure_ (i := 82) (N := some 12) (v := ?_) (a' := ?_) (bmask 83 9671406556917033397649407) rfl rfl (any_of HT_.out (by kernel_rfl)) (fun _ _ _ h => h) (Or.inl ⟨by rfl, ?_⟩) ?_ ?_
  rotate_left
  ·
   intro w'
   go_simp
   with_reducible rfl
  rotate_left
  ·
   simp only [Act.put, List.setIfInBounds_toArray, List.set_cons_zero, List.set_cons_succ, i64_w, i32_w]
   rfl
  refine done_ (done_of HT_.out (by kernel_rfl)) ?_
  go_wp2
  go_ret
  exact ⟨rfl, D54.out.b⟩


end Go.Proofs.YtbndoihcejieoaaDoor.G
