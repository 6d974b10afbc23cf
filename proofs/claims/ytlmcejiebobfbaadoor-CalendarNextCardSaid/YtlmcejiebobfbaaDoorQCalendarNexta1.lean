/-
  Functions of the program and of the references as plain Lean functions, each with a proof that the machine's call comes to what it answers. Conditions: what each contract states.
-/
import Derived.Test.YtlmcejiebobfbaaDoorQCorew1
import Derived.Test.YtlmcejiebobfbaaDoorQCorea1
import Derived.Test.YtlmcejiebobfbaaDoorQCorea2
import Derived.Test.YtlmcejiebobfbaaDoorQCorea3
namespace Go.Proofs.YtlmcejiebobfbaaDoor.G
open Go.RowKit Go.Proofs.YtlmcejiebobfbaaDoorW.PrintWords Go.Proofs.YtlmcejiebobfbaaDoorW.PrintLast Go.Proofs.YtlmcejiebobfbaaDoorW.PrintMore
attribute [local go_sem] max2_int min2_int max_two min_two max_three min_three max_four min_four   -- for this text's walks alone
set_option linter.unusedVariables false
set_option linter.unusedSimpArgs false

def customslaw04_CalendarNext.j0 : Nat → Bool → Int → Int → Int → Int → Int → Int → Option (Bool)
 | 0, _, _, _, _, _, _, _ => none
 | k + 1, x37, x200000, x200001, x200002, x205000, x205001, x205002 => if x37 = true then (some false) else (if x205000 = x200000 then (if x205001 = x200001 then (if x205002 = 1 then (if x205001 = (wrap64 (x200001 + 1)) then (if x205002 = (wrap64 (x200002 + 1)) then ((customslaw04_awake.f k).bind fun t207 => (some t207)) else (if x200002 ≥ 28 then ((customslaw04_awake.f k).bind fun t208 => (some t208)) else (some false))) else (if x205000 = (wrap64 (x200000 + 1)) then (if x200001 = 12 then (if x205001 = 1 then (if x205002 = (wrap64 (x200002 + 1)) then ((customslaw04_awake.f k).bind fun t209 => (some t209)) else (if x200002 ≥ 28 then ((customslaw04_awake.f k).bind fun t210 => (some t210)) else (some false))) else (if x205002 = (wrap64 (x200002 + 1)) then ((customslaw04_awake.f k).bind fun t211 => (some t211)) else (some false))) else (if x205002 = (wrap64 (x200002 + 1)) then ((customslaw04_awake.f k).bind fun t212 => (some t212)) else (some false))) else (if x205002 = (wrap64 (x200002 + 1)) then ((customslaw04_awake.f k).bind fun t213 => (some t213)) else (some false)))) else (if x205002 = (wrap64 (x200002 + 1)) then ((customslaw04_awake.f k).bind fun t214 => (some t214)) else (some false))) else (if x205002 = 1 then (if x205001 = (wrap64 (x200001 + 1)) then (if x200002 ≥ 28 then ((customslaw04_awake.f k).bind fun t215 => (some t215)) else (some false)) else (if x205000 = (wrap64 (x200000 + 1)) then (if x200001 = 12 then (if x205001 = 1 then (if x200002 ≥ 28 then ((customslaw04_awake.f k).bind fun t216 => (some t216)) else (some false)) else (some false)) else (some false)) else (some false))) else (some false))) else (if x205002 = 1 then (if x205000 = (wrap64 (x200000 + 1)) then (if x200001 = 12 then (if x205001 = 1 then (if x200002 ≥ 28 then ((customslaw04_awake.f k).bind fun t217 => (some t217)) else (some false)) else (some false)) else (some false)) else (some false)) else (some false)))
def customslaw04_CalendarNext.f (k : Nat) (a0 : Int) : Option (Bool) := (customsmade_Within.f a0 36524).bind fun t194 => ((calendar_Of.f k t194).bind fun bt195 => ((calendar_Of.f k (wrap64 (t194 + 1))).bind fun bt200 => (if bt195.2.2.2 = 0 then (if bt200.2.2.2 = 0 then ((calendar_Weekday.f (wrap64 (t194 + 1))).bind fun t205 => ((calendar_Weekday.f t194).bind fun t206 => (customslaw04_CalendarNext.j0 k (t205 != (Int.tmod (wrap64 (t206 + 1)) 7)) bt195.1 bt195.2.1 bt195.2.2.1 bt200.1 bt200.2.1 bt200.2.2.1))) else (customslaw04_CalendarNext.j0 k true bt195.1 bt195.2.1 bt195.2.2.1 bt200.1 bt200.2.1 bt200.2.2.1)) else (customslaw04_CalendarNext.j0 k true bt195.1 bt195.2.1 bt195.2.2.1 bt200.1 bt200.2.1 bt200.2.2.1))))
set_option maxHeartbeats 8000000 in
set_option maxRecDepth 100000 in
theorem customslaw04_CalendarNext.calls (k : Nat) (a0 : Int) (r : Bool) (w : World) (hG_lengths : GL_lengths w) (h : customslaw04_CalendarNext.f k a0 = some r) :
  Calls Tryd.prog 5 #[.int .i64 a0] w fun e w' => e = .returned (.bool r) ∧ Below w.heap.size w w' := by
 have hu24 := Tryd.underlying24
 have HG_lengths := Aside0.mk hG_lengths
 clear hG_lengths
 have HB := Aside0.mk (Below.refl w.heap.size w)
 have H : ((customsmade_Within.f a0 36524).bind fun t194 => ((calendar_Of.f k t194).bind fun bt195 => ((calendar_Of.f k (wrap64 (t194 + 1))).bind fun bt200 => (if bt195.2.2.2 = 0 then (if bt200.2.2.2 = 0 then ((calendar_Weekday.f (wrap64 (t194 + 1))).bind fun t205 => ((calendar_Weekday.f t194).bind fun t206 => (customslaw04_CalendarNext.j0 k (t205 != (Int.tmod (wrap64 (t206 + 1)) 7)) bt195.1 bt195.2.1 bt195.2.2.1 bt200.1 bt200.2.1 bt200.2.2.1))) else (customslaw04_CalendarNext.j0 k true bt195.1 bt195.2.1 bt195.2.2.1 bt200.1 bt200.2.1 bt200.2.2.1)) else (customslaw04_CalendarNext.j0 k true bt195.1 bt195.2.1 bt195.2.2.1 bt200.1 bt200.2.1 bt200.2.2.1))))) = some r := h
 clear h
 replace H := Option.bind_eq_some_iff.mp H
 obtain ⟨t194, A20, H⟩ := H
 replace H : ((calendar_Of.f k t194).bind fun bt195 => ((calendar_Of.f k (wrap64 (t194 + 1))).bind fun bt200 => (if bt195.2.2.2 = 0 then (if bt200.2.2.2 = 0 then ((calendar_Weekday.f (wrap64 (t194 + 1))).bind fun t205 => ((calendar_Weekday.f t194).bind fun t206 => (customslaw04_CalendarNext.j0 k (t205 != (Int.tmod (wrap64 (t206 + 1)) 7)) bt195.1 bt195.2.1 bt195.2.2.1 bt200.1 bt200.2.1 bt200.2.2.1))) else (customslaw04_CalendarNext.j0 k true bt195.1 bt195.2.1 bt195.2.2.1 bt200.1 bt200.2.1 bt200.2.2.1)) else (customslaw04_CalendarNext.j0 k true bt195.1 bt195.2.1 bt195.2.2.1 bt200.1 bt200.2.1 bt200.2.2.1)))) = some r := H
 have A2 := Aside0.mk A20
 clear A20
 replace H := Option.bind_eq_some_iff.mp H
 obtain ⟨⟨t195, t196, t197, t198⟩, A30, H⟩ := H
 replace H : ((calendar_Of.f k (wrap64 (t194 + 1))).bind fun bt200 => (if t198 = 0 then (if bt200.2.2.2 = 0 then ((calendar_Weekday.f (wrap64 (t194 + 1))).bind fun t205 => ((calendar_Weekday.f t194).bind fun t206 => (customslaw04_CalendarNext.j0 k (t205 != (Int.tmod (wrap64 (t206 + 1)) 7)) t195 t196 t197 bt200.1 bt200.2.1 bt200.2.2.1))) else (customslaw04_CalendarNext.j0 k true t195 t196 t197 bt200.1 bt200.2.1 bt200.2.2.1)) else (customslaw04_CalendarNext.j0 k true t195 t196 t197 bt200.1 bt200.2.1 bt200.2.2.1))) = some r := H
 have A3 := Aside0.mk A30
 clear A30
 replace H := Option.bind_eq_some_iff.mp H
 obtain ⟨⟨t200, t201, t202, t203⟩, A40, H⟩ := H
 replace H : (if t198 = 0 then (if t203 = 0 then ((calendar_Weekday.f (wrap64 (t194 + 1))).bind fun t205 => ((calendar_Weekday.f t194).bind fun t206 => (customslaw04_CalendarNext.j0 k (t205 != (Int.tmod (wrap64 (t206 + 1)) 7)) t195 t196 t197 t200 t201 t202))) else (customslaw04_CalendarNext.j0 k true t195 t196 t197 t200 t201 t202)) else (customslaw04_CalendarNext.j0 k true t195 t196 t197 t200 t201 t202)) = some r := H
 have A4 := Aside0.mk A40
 clear A40
 have HC5 := Aside0.mk H
 clear H
 go_enter Tryd.func5, Tryd.ntmps5
 go_upto_region 4 with (first | ((with_reducible refine gate_callee (f := 18) rfl ?_); refine goesL_ (some 10) rfl rfl Tryd.func18 (by kernel_rfl) rfl #[.int .i64 a0, .int .i64 36524] rfl (by (try simp only [List.map_toArray, List.map_cons, List.map_nil]); first | done | rfl | (simp only [List.length_drop, List.length_take]; rfl)) ?_; (with_reducible refine (customsmade_Within.calls a0 36524 t194 _ A2.out).mono ?_); rintro e w' ⟨rfl, ⟨nd, rfl⟩⟩; refine ⟨_, rfl, ?_⟩) | ((with_reducible refine gate_callee (f := 12) rfl ?_); refine goesL_ (some 13) rfl rfl Tryd.func12 (by kernel_rfl) rfl #[.int .i64 t194] rfl (by (try simp only [List.map_toArray, List.map_cons, List.map_nil]); first | done | rfl | (simp only [List.length_drop, List.length_take]; rfl)) ?_; (with_reducible refine (calendar_Of.calls k t194 t195 t196 t197 t198 _ ?side1 A3.out).mono ?_); (case side1 => exact GL_lengths.of_below (by repeat (first | (with_reducible first | exact HB.out | apply below_alloc | apply pw_below_drewN | apply below_drew1) | exact HB.out)) HG_lengths.out); rintro e w6 ⟨rfl, hb⟩; refine ⟨_, rfl, ?_⟩; have n0_ := Aside0.mk (below_step (by repeat (first | (with_reducible first | exact HB.out | apply below_alloc | apply pw_below_drewN | apply below_drew1) | exact HB.out)) hb); clear HB; have HB := n0_; clear n0_; (try clear hb); (try clear hb2); (try clear hk); (try clear hi)) | ((with_reducible refine gate_dst (N := 3) rfl ?_); refine box_event ?hg (N := 3) ?hd (cs := #[.int .i64 0, .int .i64 0, .int .i64 0]) (t := 24) ?hr ?_; (case hd => rfl); (case hg => rfl); (case hr => first | (go_simp; done) | (go_simp; rfl)); intro gb199 hg w7 hbox hb; have n0_ := Aside0.mk (below_step (by repeat (first | (with_reducible first | exact HB.out | apply below_alloc | apply pw_below_drewN | apply below_drew1) | exact HB.out)) hb); have n1_ := Aside0.mk (hbox); have n2_ := Aside0.mk ((by rw [hg]; exact (below_size (by repeat (first | (with_reducible first | exact HB.out | apply below_alloc | apply pw_below_drewN | apply below_drew1) | exact HB.out))) : w.heap.size ≤ gb199)); have n3_ := Aside0.mk ((by rw [hg]; exact (below_size (by repeat (first | (with_reducible first | exact HB.out | apply below_alloc | apply pw_below_drewN | apply below_drew1) | exact HB.out))) : w.heap.size ≤ gb199)); clear HB; have HB := n0_; have BK199 := n1_; have GW199 := n2_; have GE199 := n3_; clear n0_ n1_ n2_ n3_; clear hb hbox hg; have hcz8_0 : w7.cell? ⟨gb199, 0, none⟩ = some (.int .i64 0) := (blk_cell BK199.out 0).trans rfl; have hcz8_1 : w7.cell? ⟨gb199, 1, none⟩ = some (.int .i64 0) := (blk_cell BK199.out 1).trans rfl; have hcz8_2 : w7.cell? ⟨gb199, 2, none⟩ = some (.int .i64 0) := (blk_cell BK199.out 2).trans rfl; have hfz8_0 := blk_frozen BK199.out 0; have hfz8_1 := blk_frozen BK199.out 1; have hfz8_2 := blk_frozen BK199.out 2) | ((with_reducible refine gate_callee (f := 12) rfl ?_); refine goesL_ (some 19) rfl rfl Tryd.func12 (by kernel_rfl) rfl #[.int .i64 (wrap64 (t194 + 1))] rfl (by (try simp only [List.map_toArray, List.map_cons, List.map_nil]); first | done | rfl | (simp only [List.length_drop, List.length_take]; rfl)) ?_; (with_reducible refine (calendar_Of.calls k (wrap64 (t194 + 1)) t200 t201 t202 t203 _ ?side1 A4.out).mono ?_); (case side1 => exact GL_lengths.of_below (by repeat (first | (with_reducible first | exact HB.out | apply below_alloc | apply pw_below_drewN | apply below_drew1 | refine below_set ?_ GE199.out) | exact HB.out)) HG_lengths.out); rintro e w9 ⟨rfl, hb⟩; refine ⟨_, rfl, ?_⟩; have n0_ := Aside0.mk (blk_below (g := gb199) (o := .cells #[.int .i64 t195, .int .i64 t196, .int .i64 t197] 24 (0, 0)) (by (with_reducible repeat (first | refine blk_drewN ?_ _ | refine blk_drew ?_ | refine blk_alloc ?_ _)); refine blk_put (cs := #[.int .i64 t195, .int .i64 t196, .int .i64 0]) ?_ 2 _ rfl; (with_reducible repeat (first | refine blk_drewN ?_ _ | refine blk_drew ?_ | refine blk_alloc ?_ _)); refine blk_put (cs := #[.int .i64 t195, .int .i64 0, .int .i64 0]) ?_ 1 _ rfl; (with_reducible repeat (first | refine blk_drewN ?_ _ | refine blk_drew ?_ | refine blk_alloc ?_ _)); refine blk_put (cs := #[.int .i64 0, .int .i64 0, .int .i64 0]) ?_ 0 _ rfl; (with_reducible repeat (first | refine blk_drewN ?_ _ | refine blk_drew ?_ | refine blk_alloc ?_ _)); exact BK199.out) hb); have n1_ := Aside0.mk (below_step (by repeat (first | (with_reducible first | exact HB.out | apply below_alloc | apply pw_below_drewN | apply below_drew1 | refine below_set ?_ GE199.out) | exact HB.out)) hb); clear BK199; clear HB; have BK199 := n0_; have HB := n1_; clear n0_ n1_; (try clear hb); (try clear hb2); (try clear hk); (try clear hi)) | ((with_reducible refine gate_dst (N := 5) rfl ?_); refine box_event ?hg (N := 5) ?hd (cs := #[.int .i64 0, .int .i64 0, .int .i64 0]) (t := 24) ?hr ?_; (case hd => rfl); (case hg => rfl); (case hr => first | (go_simp; done) | (go_simp; rfl)); intro gb204 hg w10 hbox hb; have n0_ := Aside0.mk (blk_below (g := gb199) (o := .cells #[.int .i64 t195, .int .i64 t196, .int .i64 t197] 24 (0, 0)) (by (with_reducible repeat (first | refine blk_drewN ?_ _ | refine blk_drew ?_ | refine blk_alloc ?_ _)); exact BK199.out) hb); have n1_ := Aside0.mk (below_step (by repeat (first | (with_reducible first | exact HB.out | apply below_alloc | apply pw_below_drewN | apply below_drew1 | refine below_set ?_ GE199.out) | exact HB.out)) hb); have n2_ := Aside0.mk (hbox); have n3_ := Aside0.mk ((by rw [hg]; exact (below_size (by repeat (first | (with_reducible first | exact HB.out | apply below_alloc | apply pw_below_drewN | apply below_drew1 | refine below_set ?_ GE199.out) | exact HB.out))) : w.heap.size ≤ gb204)); have n4_ := Aside0.mk ((by rw [hg]; exact (below_size (by repeat (first | (with_reducible first | exact HB.out | apply below_alloc | apply pw_below_drewN | apply below_drew1 | refine below_set ?_ GE199.out) | exact HB.out))) : w.heap.size ≤ gb204)); have n5_ := Aside0.mk ((by rw [hg]; exact Nat.ne_of_lt (blk_lt (g := gb199) (o := .cells #[.int .i64 t195, .int .i64 t196, .int .i64 t197] 24 (0, 0)) (by (with_reducible repeat (first | refine blk_drewN ?_ _ | refine blk_drew ?_ | refine blk_alloc ?_ _)); exact BK199.out)) : gb199 ≠ gb204)); have n6_ := Aside0.mk ((by rw [hg]; exact Nat.ne_of_gt (blk_lt (g := gb199) (o := .cells #[.int .i64 t195, .int .i64 t196, .int .i64 t197] 24 (0, 0)) (by (with_reducible repeat (first | refine blk_drewN ?_ _ | refine blk_drew ?_ | refine blk_alloc ?_ _)); exact BK199.out)) : gb204 ≠ gb199)); clear BK199; clear HB; have BK199 := n0_; have HB := n1_; have BK204 := n2_; have GW204 := n3_; have GE204 := n4_; have NB199_204 := n5_; have NB204_199 := n6_; clear n0_ n1_ n2_ n3_ n4_ n5_ n6_; clear hb hbox hg; have hnb11 := NB204_199.out; have hnc11 := NB199_204.out; have hcz12_0 : w10.cell? ⟨gb204, 0, none⟩ = some (.int .i64 0) := (blk_cell BK204.out 0).trans rfl; have hcz12_1 : w10.cell? ⟨gb204, 1, none⟩ = some (.int .i64 0) := (blk_cell BK204.out 1).trans rfl; have hcz12_2 : w10.cell? ⟨gb204, 2, none⟩ = some (.int .i64 0) := (blk_cell BK204.out 2).trans rfl; have hfz12_0 := blk_frozen BK204.out 0; have hfz12_1 := blk_frozen BK204.out 1; have hfz12_2 := blk_frozen BK204.out 2))
 (try simp only [Act.put, List.setIfInBounds_toArray, List.set_cons_zero, List.set_cons_succ])
 go_cut [37] (fun v37 wc => ∃ (kq : Nat) (x37_4 : Bool), v37 = .bool x37_4 ∧ Aside0 (customslaw04_CalendarNext.j0 kq x37_4 t195 t196 t197 t200 t201 t202 = some r) ∧ Aside0 (kq ≤ k) ∧ Aside0 (wc.heap[gb199]? = some (.cells #[.int .i64 t195, .int .i64 t196, .int .i64 t197] 24 (0, 0))) ∧ Aside0 (wc.heap[gb204]? = some (.cells #[.int .i64 t200, .int .i64 t201, .int .i64 t202] 24 (0, 0))) ∧ Aside0 (Below w.heap.size w wc))
 case first =>
  have H := HC5.out
  clear HC5
  by_cases c13 : t198 = 0
  ·
   rw [if_pos c13] at H
   have c13b0 : (t198 == 0) = true := beq_iff_eq.mpr c13
   have c13b1 : (t198 != 0) = false := bne_eq_false_iff_eq.mpr c13
   clear c13
   (first | rw [c13b0] | (simp only [i64_w, i32_w]; rw [c13b0]) | skip)
   by_cases c14 : t203 = 0
   ·
    rw [if_pos c14] at H
    have c14b0 : (t203 == 0) = true := beq_iff_eq.mpr c14
    have c14b1 : (t203 != 0) = false := bne_eq_false_iff_eq.mpr c14
    clear c14
    replace H := Option.bind_eq_some_iff.mp H
    obtain ⟨t205, A150, H⟩ := H
    replace H : ((calendar_Weekday.f t194).bind fun t206 => (customslaw04_CalendarNext.j0 k (t205 != (Int.tmod (wrap64 (t206 + 1)) 7)) t195 t196 t197 t200 t201 t202)) = some r := H
    have A15 := Aside0.mk A150
    clear A150
    replace H := Option.bind_eq_some_iff.mp H
    obtain ⟨t206, A160, H⟩ := H
    replace H : (customslaw04_CalendarNext.j0 k (t205 != (Int.tmod (wrap64 (t206 + 1)) 7)) t195 t196 t197 t200 t201 t202) = some r := H
    have A16 := Aside0.mk A160
    clear A160
    have H' := Aside0.mk H
    clear H
    go_wp2_with (first | (go_at_call 14; (with_reducible refine (calendar_Weekday.calls (wrap64 (t194 + 1)) t205 _ A15.out).mono ?_); rintro e w' ⟨rfl, ⟨nd, rfl⟩⟩) | (go_at_call 14; (with_reducible refine (calendar_Weekday.calls t194 t206 _ A16.out).mono ?_); rintro e w' ⟨rfl, ⟨nd, rfl⟩⟩))
    go_meet
    case rel => exact ⟨_, ((t205 != (Int.tmod (wrap64 (t206 + 1)) 7))), (by first | rfl | (simp; done) | (simp [*]; done)), H', ⟨by first | omega | exact Nat.le_refl _⟩, ⟨by (with_reducible repeat (first | refine blk_drewN ?_ _ | refine blk_drew ?_ | refine blk_alloc ?_ _)); refine blk_far ?_ NB199_204.out _; (with_reducible repeat (first | refine blk_drewN ?_ _ | refine blk_drew ?_ | refine blk_alloc ?_ _)); refine blk_far ?_ NB199_204.out _; (with_reducible repeat (first | refine blk_drewN ?_ _ | refine blk_drew ?_ | refine blk_alloc ?_ _)); refine blk_far ?_ NB199_204.out _; (with_reducible repeat (first | refine blk_drewN ?_ _ | refine blk_drew ?_ | refine blk_alloc ?_ _)); exact BK199.out⟩, ⟨by (with_reducible repeat (first | refine blk_drewN ?_ _ | refine blk_drew ?_ | refine blk_alloc ?_ _)); refine blk_put (cs := #[.int .i64 t200, .int .i64 t201, .int .i64 0]) ?_ 2 _ rfl; (with_reducible repeat (first | refine blk_drewN ?_ _ | refine blk_drew ?_ | refine blk_alloc ?_ _)); refine blk_put (cs := #[.int .i64 t200, .int .i64 0, .int .i64 0]) ?_ 1 _ rfl; (with_reducible repeat (first | refine blk_drewN ?_ _ | refine blk_drew ?_ | refine blk_alloc ?_ _)); refine blk_put (cs := #[.int .i64 0, .int .i64 0, .int .i64 0]) ?_ 0 _ rfl; (with_reducible repeat (first | refine blk_drewN ?_ _ | refine blk_drew ?_ | refine blk_alloc ?_ _)); exact BK204.out⟩, ⟨by repeat (first | (with_reducible first | exact HB.out | apply below_alloc | apply pw_below_drewN | apply below_drew1 | refine below_set ?_ GE199.out | refine below_set ?_ GE204.out) | exact HB.out)⟩⟩
   ·
    rw [if_neg c14] at H
    have c14b0 : (t203 == 0) = false := beq_eq_false_iff_ne.mpr c14
    have c14b1 : (t203 != 0) = true := bne_iff_ne.mpr c14
    have H' := Aside0.mk H
    clear H
    go_wp2
    go_meet
    case rel => exact ⟨_, (true), (by first | rfl | (simp; done) | (simp [*]; done)), H', ⟨by first | omega | exact Nat.le_refl _⟩, ⟨by (with_reducible repeat (first | refine blk_drewN ?_ _ | refine blk_drew ?_ | refine blk_alloc ?_ _)); refine blk_far ?_ NB199_204.out _; (with_reducible repeat (first | refine blk_drewN ?_ _ | refine blk_drew ?_ | refine blk_alloc ?_ _)); refine blk_far ?_ NB199_204.out _; (with_reducible repeat (first | refine blk_drewN ?_ _ | refine blk_drew ?_ | refine blk_alloc ?_ _)); refine blk_far ?_ NB199_204.out _; (with_reducible repeat (first | refine blk_drewN ?_ _ | refine blk_drew ?_ | refine blk_alloc ?_ _)); exact BK199.out⟩, ⟨by (with_reducible repeat (first | refine blk_drewN ?_ _ | refine blk_drew ?_ | refine blk_alloc ?_ _)); refine blk_put (cs := #[.int .i64 t200, .int .i64 t201, .int .i64 0]) ?_ 2 _ rfl; (with_reducible repeat (first | refine blk_drewN ?_ _ | refine blk_drew ?_ | refine blk_alloc ?_ _)); refine blk_put (cs := #[.int .i64 t200, .int .i64 0, .int .i64 0]) ?_ 1 _ rfl; (with_reducible repeat (first | refine blk_drewN ?_ _ | refine blk_drew ?_ | refine blk_alloc ?_ _)); refine blk_put (cs := #[.int .i64 0, .int .i64 0, .int .i64 0]) ?_ 0 _ rfl; (with_reducible repeat (first | refine blk_drewN ?_ _ | refine blk_drew ?_ | refine blk_alloc ?_ _)); exact BK204.out⟩, ⟨by repeat (first | (with_reducible first | exact HB.out | apply below_alloc | apply pw_below_drewN | apply below_drew1 | refine below_set ?_ GE199.out | refine below_set ?_ GE204.out) | exact HB.out)⟩⟩
  ·
   rw [if_neg c13] at H
   have c13b0 : (t198 == 0) = false := beq_eq_false_iff_ne.mpr c13
   have c13b1 : (t198 != 0) = true := bne_iff_ne.mpr c13
   (first | rw [c13b0] | (simp only [i64_w, i32_w]; rw [c13b0]) | skip)
   have H' := Aside0.mk H
   clear H
   go_wp2
   go_meet
   case rel => exact ⟨_, (true), (by first | rfl | (simp; done) | (simp [*]; done)), H', ⟨by first | omega | exact Nat.le_refl _⟩, ⟨by (with_reducible repeat (first | refine blk_drewN ?_ _ | refine blk_drew ?_ | refine blk_alloc ?_ _)); refine blk_far ?_ NB199_204.out _; (with_reducible repeat (first | refine blk_drewN ?_ _ | refine blk_drew ?_ | refine blk_alloc ?_ _)); refine blk_far ?_ NB199_204.out _; (with_reducible repeat (first | refine blk_drewN ?_ _ | refine blk_drew ?_ | refine blk_alloc ?_ _)); refine blk_far ?_ NB199_204.out _; (with_reducible repeat (first | refine blk_drewN ?_ _ | refine blk_drew ?_ | refine blk_alloc ?_ _)); exact BK199.out⟩, ⟨by (with_reducible repeat (first | refine blk_drewN ?_ _ | refine blk_drew ?_ | refine blk_alloc ?_ _)); refine blk_put (cs := #[.int .i64 t200, .int .i64 t201, .int .i64 0]) ?_ 2 _ rfl; (with_reducible repeat (first | refine blk_drewN ?_ _ | refine blk_drew ?_ | refine blk_alloc ?_ _)); refine blk_put (cs := #[.int .i64 t200, .int .i64 0, .int .i64 0]) ?_ 1 _ rfl; (with_reducible repeat (first | refine blk_drewN ?_ _ | refine blk_drew ?_ | refine blk_alloc ?_ _)); refine blk_put (cs := #[.int .i64 0, .int .i64 0, .int .i64 0]) ?_ 0 _ rfl; (with_reducible repeat (first | refine blk_drewN ?_ _ | refine blk_drew ?_ | refine blk_alloc ?_ _)); exact BK204.out⟩, ⟨by repeat (first | (with_reducible first | exact HB.out | apply below_alloc | apply pw_below_drewN | apply below_drew1 | refine below_set ?_ GE199.out | refine below_set ?_ GE204.out) | exact HB.out)⟩⟩
 case rest =>
  clear HC5
  try clear c1
  try clear p2
  try clear c5
  try clear p6
  try clear c11
  try clear c12
  try clear c13
  try clear c13b0
  try clear c13b1
  try clear c14
  try clear c14b0
  try clear c14b1
  try clear hcz12_0
  try clear hcz12_1
  try clear hcz12_2
  try clear hcz8_0
  try clear hcz8_1
  try clear hcz8_2
  try clear hfz12_0
  try clear hfz12_1
  try clear hfz12_2
  try clear hfz8_0
  try clear hfz8_1
  try clear hfz8_2
  obtain ⟨kq, x37_4, rfl, HA, HJ4, BK199, BK204, HB⟩ := hcut
  cases kq with
  | zero => exact absurd HA.out (by simp [customslaw04_CalendarNext.j0])
  | succ kj4 =>
   have H := HA.out
   clear HA
   simp only [customslaw04_CalendarNext.j0] at H
   by_cases c17 : x37_4 = true
   ·
    subst c17
    have H1 : (some false) = some r := by rw [if_pos rfl] at H; exact H
    clear H
    have H := H1
    clear H1
    obtain rfl := Option.some.inj H
    go_wp2
    go_ret
    exact ⟨by first | rfl | (simp [errW_none, errW_some] <;> rfl) | (simp [*, errW_none, errW_some] <;> rfl), by repeat (first | (with_reducible first | exact HB.out | apply below_alloc | apply pw_below_drewN | apply below_drew1 | refine below_set ?_ GE199.out | refine below_set ?_ GE204.out) | exact HB.out)⟩
   ·
    replace c17 := Bool.eq_false_iff.mpr c17
    subst c17
    have H1 : (if t200 = t195 then (if t201 = t196 then (if t202 = 1 then (if t201 = (wrap64 (t196 + 1)) then (if t202 = (wrap64 (t197 + 1)) then ((customslaw04_awake.f kj4).bind fun t207 => (some t207)) else (if t197 ≥ 28 then ((customslaw04_awake.f kj4).bind fun t208 => (some t208)) else (some false))) else (if t200 = (wrap64 (t195 + 1)) then (if t196 = 12 then (if t201 = 1 then (if t202 = (wrap64 (t197 + 1)) then ((customslaw04_awake.f kj4).bind fun t209 => (some t209)) else (if t197 ≥ 28 then ((customslaw04_awake.f kj4).bind fun t210 => (some t210)) else (some false))) else (if t202 = (wrap64 (t197 + 1)) then ((customslaw04_awake.f kj4).bind fun t211 => (some t211)) else (some false))) else (if t202 = (wrap64 (t197 + 1)) then ((customslaw04_awake.f kj4).bind fun t212 => (some t212)) else (some false))) else (if t202 = (wrap64 (t197 + 1)) then ((customslaw04_awake.f kj4).bind fun t213 => (some t213)) else (some false)))) else (if t202 = (wrap64 (t197 + 1)) then ((customslaw04_awake.f kj4).bind fun t214 => (some t214)) else (some false))) else (if t202 = 1 then (if t201 = (wrap64 (t196 + 1)) then (if t197 ≥ 28 then ((customslaw04_awake.f kj4).bind fun t215 => (some t215)) else (some false)) else (if t200 = (wrap64 (t195 + 1)) then (if t196 = 12 then (if t201 = 1 then (if t197 ≥ 28 then ((customslaw04_awake.f kj4).bind fun t216 => (some t216)) else (some false)) else (some false)) else (some false)) else (some false))) else (some false))) else (if t202 = 1 then (if t200 = (wrap64 (t195 + 1)) then (if t196 = 12 then (if t201 = 1 then (if t197 ≥ 28 then ((customslaw04_awake.f kj4).bind fun t217 => (some t217)) else (some false)) else (some false)) else (some false)) else (some false)) else (some false))) = some r := by rw [if_neg (show ¬ (false = true) by decide)] at H; exact H
    clear H
    have H := H1
    clear H1
    by_cases c18 : t200 = t195
    ·
     rw [if_pos c18] at H
     have c18b0 : (t200 == t195) = true := beq_iff_eq.mpr c18
     have c18b1 : (t200 != t195) = false := bne_eq_false_iff_eq.mpr c18
     clear c18
     by_cases c19 : t201 = t196
     ·
      rw [if_pos c19] at H
      have c19b0 : (t201 == t196) = true := beq_iff_eq.mpr c19
      have c19b1 : (t201 != t196) = false := bne_eq_false_iff_eq.mpr c19
      clear c19
      by_cases c20 : t202 = 1
      ·
       rw [if_pos c20] at H
       have c20b0 : (t202 == 1) = true := beq_iff_eq.mpr c20
       have c20b1 : (t202 != 1) = false := bne_eq_false_iff_eq.mpr c20
       clear c20
       by_cases c21 : t201 = (wrap64 (t196 + 1))
       ·
        rw [if_pos c21] at H
        have c21b0 : (t201 == (wrap64 (t196 + 1))) = true := beq_iff_eq.mpr c21
        have c21b1 : (t201 != (wrap64 (t196 + 1))) = false := bne_eq_false_iff_eq.mpr c21
        clear c21
        by_cases c22 : t202 = (wrap64 (t197 + 1))
        ·
         rw [if_pos c22] at H
         have c22b0 : (t202 == (wrap64 (t197 + 1))) = true := beq_iff_eq.mpr c22
         have c22b1 : (t202 != (wrap64 (t197 + 1))) = false := bne_eq_false_iff_eq.mpr c22
         clear c22
         replace H := Option.bind_eq_some_iff.mp H
         obtain ⟨t207, A230, H⟩ := H
         replace H : (some t207) = some r := H
         have A23 := Aside0.mk A230
         clear A230
         obtain rfl := Option.some.inj H
         have hnb24 := NB204_199.out
         have hnc24 := NB199_204.out
         have hcz25_0 : wc.cell? ⟨gb204, 0, none⟩ = some (.int .i64 t200) := (blk_cell BK204.out 0).trans rfl
         have hcz25_1 : wc.cell? ⟨gb204, 1, none⟩ = some (.int .i64 t201) := (blk_cell BK204.out 1).trans rfl
         have hcz25_2 : wc.cell? ⟨gb204, 2, none⟩ = some (.int .i64 t202) := (blk_cell BK204.out 2).trans rfl
         have hfz25_0 := blk_frozen BK204.out 0
         have hfz25_1 := blk_frozen BK204.out 1
         have hfz25_2 := blk_frozen BK204.out 2
         have hcz26_0 : wc.cell? ⟨gb199, 0, none⟩ = some (.int .i64 t195) := (blk_cell BK199.out 0).trans rfl
         have hcz26_1 : wc.cell? ⟨gb199, 1, none⟩ = some (.int .i64 t196) := (blk_cell BK199.out 1).trans rfl
         have hcz26_2 : wc.cell? ⟨gb199, 2, none⟩ = some (.int .i64 t197) := (blk_cell BK199.out 2).trans rfl
         have hfz26_0 := blk_frozen BK199.out 0
         have hfz26_1 := blk_frozen BK199.out 1
         have hfz26_2 := blk_frozen BK199.out 2
         go_wp2_with (first | (go_at_call 17; (with_reducible refine (customslaw04_awake.calls kj4  t207 _ ?side1 A23.out).mono ?_); (case side1 => exact GL_lengths.of_below (by repeat (first | (with_reducible first | exact HB.out | apply below_alloc | apply pw_below_drewN | apply below_drew1 | refine below_set ?_ GE199.out | refine below_set ?_ GE204.out) | exact HB.out)) HG_lengths.out); rintro e w27 ⟨rfl, hb⟩; have n0_ := Aside0.mk (blk_below (g := gb199) (o := .cells #[.int .i64 t195, .int .i64 t196, .int .i64 t197] 24 (0, 0)) (by (with_reducible repeat (first | refine blk_drewN ?_ _ | refine blk_drew ?_ | refine blk_alloc ?_ _)); exact BK199.out) hb); have n1_ := Aside0.mk (blk_below (g := gb204) (o := .cells #[.int .i64 t200, .int .i64 t201, .int .i64 t202] 24 (0, 0)) (by (with_reducible repeat (first | refine blk_drewN ?_ _ | refine blk_drew ?_ | refine blk_alloc ?_ _)); exact BK204.out) hb); have n2_ := Aside0.mk (below_step (by repeat (first | (with_reducible first | exact HB.out | apply below_alloc | apply pw_below_drewN | apply below_drew1 | refine below_set ?_ GE199.out | refine below_set ?_ GE204.out) | exact HB.out)) hb); clear BK199; clear BK204; clear HB; have BK199 := n0_; have BK204 := n1_; have HB := n2_; clear n0_ n1_ n2_; (try clear hb); (try clear hb2); (try clear hk); (try clear hi)))
         go_ret
         exact ⟨by first | rfl | (simp [errW_none, errW_some] <;> rfl) | (simp [*, errW_none, errW_some] <;> rfl), by repeat (first | (with_reducible first | exact HB.out | apply below_alloc | apply pw_below_drewN | apply below_drew1 | refine below_set ?_ GE199.out | refine below_set ?_ GE204.out) | exact HB.out)⟩
        ·
         rw [if_neg c22] at H
         have c22b0 : (t202 == (wrap64 (t197 + 1))) = false := beq_eq_false_iff_ne.mpr c22
         have c22b1 : (t202 != (wrap64 (t197 + 1))) = true := bne_iff_ne.mpr c22
         by_cases c28 : t197 ≥ 28
         ·
          rw [if_pos c28] at H
          have c28b0 : decide (28 ≤ t197) = true := decide_eq_true c28
          clear c28
          replace H := Option.bind_eq_some_iff.mp H
          obtain ⟨t208, A290, H⟩ := H
          replace H : (some t208) = some r := H
          have A29 := Aside0.mk A290
          clear A290
          obtain rfl := Option.some.inj H
          have hnb30 := NB204_199.out
          have hnc30 := NB199_204.out
          have hcz31_0 : wc.cell? ⟨gb204, 0, none⟩ = some (.int .i64 t200) := (blk_cell BK204.out 0).trans rfl
          have hcz31_1 : wc.cell? ⟨gb204, 1, none⟩ = some (.int .i64 t201) := (blk_cell BK204.out 1).trans rfl
          have hcz31_2 : wc.cell? ⟨gb204, 2, none⟩ = some (.int .i64 t202) := (blk_cell BK204.out 2).trans rfl
          have hfz31_0 := blk_frozen BK204.out 0
          have hfz31_1 := blk_frozen BK204.out 1
          have hfz31_2 := blk_frozen BK204.out 2
          have hcz32_0 : wc.cell? ⟨gb199, 0, none⟩ = some (.int .i64 t195) := (blk_cell BK199.out 0).trans rfl
          have hcz32_1 : wc.cell? ⟨gb199, 1, none⟩ = some (.int .i64 t196) := (blk_cell BK199.out 1).trans rfl
          have hcz32_2 : wc.cell? ⟨gb199, 2, none⟩ = some (.int .i64 t197) := (blk_cell BK199.out 2).trans rfl
          have hfz32_0 := blk_frozen BK199.out 0
          have hfz32_1 := blk_frozen BK199.out 1
          have hfz32_2 := blk_frozen BK199.out 2
          go_wp2_with (first | (go_at_call 17; (with_reducible refine (customslaw04_awake.calls kj4  t208 _ ?side1 A29.out).mono ?_); (case side1 => exact GL_lengths.of_below (by repeat (first | (with_reducible first | exact HB.out | apply below_alloc | apply pw_below_drewN | apply below_drew1 | refine below_set ?_ GE199.out | refine below_set ?_ GE204.out) | exact HB.out)) HG_lengths.out); rintro e w33 ⟨rfl, hb⟩; have n0_ := Aside0.mk (blk_below (g := gb199) (o := .cells #[.int .i64 t195, .int .i64 t196, .int .i64 t197] 24 (0, 0)) (by (with_reducible repeat (first | refine blk_drewN ?_ _ | refine blk_drew ?_ | refine blk_alloc ?_ _)); exact BK199.out) hb); have n1_ := Aside0.mk (blk_below (g := gb204) (o := .cells #[.int .i64 t200, .int .i64 t201, .int .i64 t202] 24 (0, 0)) (by (with_reducible repeat (first | refine blk_drewN ?_ _ | refine blk_drew ?_ | refine blk_alloc ?_ _)); exact BK204.out) hb); have n2_ := Aside0.mk (below_step (by repeat (first | (with_reducible first | exact HB.out | apply below_alloc | apply pw_below_drewN | apply below_drew1 | refine below_set ?_ GE199.out | refine below_set ?_ GE204.out) | exact HB.out)) hb); clear BK199; clear BK204; clear HB; have BK199 := n0_; have BK204 := n1_; have HB := n2_; clear n0_ n1_ n2_; (try clear hb); (try clear hb2); (try clear hk); (try clear hi)))
          go_ret
          exact ⟨by first | rfl | (simp [errW_none, errW_some] <;> rfl) | (simp [*, errW_none, errW_some] <;> rfl), by repeat (first | (with_reducible first | exact HB.out | apply below_alloc | apply pw_below_drewN | apply below_drew1 | refine below_set ?_ GE199.out | refine below_set ?_ GE204.out) | exact HB.out)⟩
         ·
          rw [if_neg c28] at H
          have c28b0 : decide (28 ≤ t197) = false := decide_eq_false c28
          clear c28
          obtain rfl := Option.some.inj H
          have hnb34 := NB204_199.out
          have hnc34 := NB199_204.out
          have hcz35_0 : wc.cell? ⟨gb204, 0, none⟩ = some (.int .i64 t200) := (blk_cell BK204.out 0).trans rfl
          have hcz35_1 : wc.cell? ⟨gb204, 1, none⟩ = some (.int .i64 t201) := (blk_cell BK204.out 1).trans rfl
          have hcz35_2 : wc.cell? ⟨gb204, 2, none⟩ = some (.int .i64 t202) := (blk_cell BK204.out 2).trans rfl
          have hfz35_0 := blk_frozen BK204.out 0
          have hfz35_1 := blk_frozen BK204.out 1
          have hfz35_2 := blk_frozen BK204.out 2
          have hcz36_0 : wc.cell? ⟨gb199, 0, none⟩ = some (.int .i64 t195) := (blk_cell BK199.out 0).trans rfl
          have hcz36_1 : wc.cell? ⟨gb199, 1, none⟩ = some (.int .i64 t196) := (blk_cell BK199.out 1).trans rfl
          have hcz36_2 : wc.cell? ⟨gb199, 2, none⟩ = some (.int .i64 t197) := (blk_cell BK199.out 2).trans rfl
          have hfz36_0 := blk_frozen BK199.out 0
          have hfz36_1 := blk_frozen BK199.out 1
          have hfz36_2 := blk_frozen BK199.out 2
          go_wp2
          go_ret
          exact ⟨by first | rfl | (simp [errW_none, errW_some] <;> rfl) | (simp [*, errW_none, errW_some] <;> rfl), by repeat (first | (with_reducible first | exact HB.out | apply below_alloc | apply pw_below_drewN | apply below_drew1 | refine below_set ?_ GE199.out | refine below_set ?_ GE204.out) | exact HB.out)⟩
       ·
        rw [if_neg c21] at H
        have c21b0 : (t201 == (wrap64 (t196 + 1))) = false := beq_eq_false_iff_ne.mpr c21
        have c21b1 : (t201 != (wrap64 (t196 + 1))) = true := bne_iff_ne.mpr c21
        by_cases c37 : t200 = (wrap64 (t195 + 1))
        ·
         rw [if_pos c37] at H
         have c37b0 : (t200 == (wrap64 (t195 + 1))) = true := beq_iff_eq.mpr c37
         have c37b1 : (t200 != (wrap64 (t195 + 1))) = false := bne_eq_false_iff_eq.mpr c37
         clear c37
         by_cases c38 : t196 = 12
         ·
          rw [if_pos c38] at H
          have c38b0 : (t196 == 12) = true := beq_iff_eq.mpr c38
          have c38b1 : (t196 != 12) = false := bne_eq_false_iff_eq.mpr c38
          clear c38
          by_cases c39 : t201 = 1
          ·
           rw [if_pos c39] at H
           have c39b0 : (t201 == 1) = true := beq_iff_eq.mpr c39
           have c39b1 : (t201 != 1) = false := bne_eq_false_iff_eq.mpr c39
           clear c39
           by_cases c40 : t202 = (wrap64 (t197 + 1))
           ·
            rw [if_pos c40] at H
            have c40b0 : (t202 == (wrap64 (t197 + 1))) = true := beq_iff_eq.mpr c40
            have c40b1 : (t202 != (wrap64 (t197 + 1))) = false := bne_eq_false_iff_eq.mpr c40
            clear c40
            replace H := Option.bind_eq_some_iff.mp H
            obtain ⟨t209, A410, H⟩ := H
            replace H : (some t209) = some r := H
            have A41 := Aside0.mk A410
            clear A410
            obtain rfl := Option.some.inj H
            have hnb42 := NB204_199.out
            have hnc42 := NB199_204.out
            have hcz43_0 : wc.cell? ⟨gb204, 0, none⟩ = some (.int .i64 t200) := (blk_cell BK204.out 0).trans rfl
            have hcz43_1 : wc.cell? ⟨gb204, 1, none⟩ = some (.int .i64 t201) := (blk_cell BK204.out 1).trans rfl
            have hcz43_2 : wc.cell? ⟨gb204, 2, none⟩ = some (.int .i64 t202) := (blk_cell BK204.out 2).trans rfl
            have hfz43_0 := blk_frozen BK204.out 0
            have hfz43_1 := blk_frozen BK204.out 1
            have hfz43_2 := blk_frozen BK204.out 2
            have hcz44_0 : wc.cell? ⟨gb199, 0, none⟩ = some (.int .i64 t195) := (blk_cell BK199.out 0).trans rfl
            have hcz44_1 : wc.cell? ⟨gb199, 1, none⟩ = some (.int .i64 t196) := (blk_cell BK199.out 1).trans rfl
            have hcz44_2 : wc.cell? ⟨gb199, 2, none⟩ = some (.int .i64 t197) := (blk_cell BK199.out 2).trans rfl
            have hfz44_0 := blk_frozen BK199.out 0
            have hfz44_1 := blk_frozen BK199.out 1
            have hfz44_2 := blk_frozen BK199.out 2
            go_wp2_with (first | (go_at_call 17; (with_reducible refine (customslaw04_awake.calls kj4  t209 _ ?side1 A41.out).mono ?_); (case side1 => exact GL_lengths.of_below (by repeat (first | (with_reducible first | exact HB.out | apply below_alloc | apply pw_below_drewN | apply below_drew1 | refine below_set ?_ GE199.out | refine below_set ?_ GE204.out) | exact HB.out)) HG_lengths.out); rintro e w45 ⟨rfl, hb⟩; have n0_ := Aside0.mk (blk_below (g := gb199) (o := .cells #[.int .i64 t195, .int .i64 t196, .int .i64 t197] 24 (0, 0)) (by (with_reducible repeat (first | refine blk_drewN ?_ _ | refine blk_drew ?_ | refine blk_alloc ?_ _)); exact BK199.out) hb); have n1_ := Aside0.mk (blk_below (g := gb204) (o := .cells #[.int .i64 t200, .int .i64 t201, .int .i64 t202] 24 (0, 0)) (by (with_reducible repeat (first | refine blk_drewN ?_ _ | refine blk_drew ?_ | refine blk_alloc ?_ _)); exact BK204.out) hb); have n2_ := Aside0.mk (below_step (by repeat (first | (with_reducible first | exact HB.out | apply below_alloc | apply pw_below_drewN | apply below_drew1 | refine below_set ?_ GE199.out | refine below_set ?_ GE204.out) | exact HB.out)) hb); clear BK199; clear BK204; clear HB; have BK199 := n0_; have BK204 := n1_; have HB := n2_; clear n0_ n1_ n2_; (try clear hb); (try clear hb2); (try clear hk); (try clear hi)))
            go_ret
            exact ⟨by first | rfl | (simp [errW_none, errW_some] <;> rfl) | (simp [*, errW_none, errW_some] <;> rfl), by repeat (first | (with_reducible first | exact HB.out | apply below_alloc | apply pw_below_drewN | apply below_drew1 | refine below_set ?_ GE199.out | refine below_set ?_ GE204.out) | exact HB.out)⟩
           ·
            rw [if_neg c40] at H
            have c40b0 : (t202 == (wrap64 (t197 + 1))) = false := beq_eq_false_iff_ne.mpr c40
            have c40b1 : (t202 != (wrap64 (t197 + 1))) = true := bne_iff_ne.mpr c40
            by_cases c46 : t197 ≥ 28
            ·
             rw [if_pos c46] at H
             have c46b0 : decide (28 ≤ t197) = true := decide_eq_true c46
             clear c46
             replace H := Option.bind_eq_some_iff.mp H
             obtain ⟨t210, A470, H⟩ := H
             replace H : (some t210) = some r := H
             have A47 := Aside0.mk A470
             clear A470
             obtain rfl := Option.some.inj H
             have hnb48 := NB204_199.out
             have hnc48 := NB199_204.out
             have hcz49_0 : wc.cell? ⟨gb204, 0, none⟩ = some (.int .i64 t200) := (blk_cell BK204.out 0).trans rfl
             have hcz49_1 : wc.cell? ⟨gb204, 1, none⟩ = some (.int .i64 t201) := (blk_cell BK204.out 1).trans rfl
             have hcz49_2 : wc.cell? ⟨gb204, 2, none⟩ = some (.int .i64 t202) := (blk_cell BK204.out 2).trans rfl
             have hfz49_0 := blk_frozen BK204.out 0
             have hfz49_1 := blk_frozen BK204.out 1
             have hfz49_2 := blk_frozen BK204.out 2
             have hcz50_0 : wc.cell? ⟨gb199, 0, none⟩ = some (.int .i64 t195) := (blk_cell BK199.out 0).trans rfl
             have hcz50_1 : wc.cell? ⟨gb199, 1, none⟩ = some (.int .i64 t196) := (blk_cell BK199.out 1).trans rfl
             have hcz50_2 : wc.cell? ⟨gb199, 2, none⟩ = some (.int .i64 t197) := (blk_cell BK199.out 2).trans rfl
             have hfz50_0 := blk_frozen BK199.out 0
             have hfz50_1 := blk_frozen BK199.out 1
             have hfz50_2 := blk_frozen BK199.out 2
             go_wp2_with (first | (go_at_call 17; (with_reducible refine (customslaw04_awake.calls kj4  t210 _ ?side1 A47.out).mono ?_); (case side1 => exact GL_lengths.of_below (by repeat (first | (with_reducible first | exact HB.out | apply below_alloc | apply pw_below_drewN | apply below_drew1 | refine below_set ?_ GE199.out | refine below_set ?_ GE204.out) | exact HB.out)) HG_lengths.out); rintro e w51 ⟨rfl, hb⟩; have n0_ := Aside0.mk (blk_below (g := gb199) (o := .cells #[.int .i64 t195, .int .i64 t196, .int .i64 t197] 24 (0, 0)) (by (with_reducible repeat (first | refine blk_drewN ?_ _ | refine blk_drew ?_ | refine blk_alloc ?_ _)); exact BK199.out) hb); have n1_ := Aside0.mk (blk_below (g := gb204) (o := .cells #[.int .i64 t200, .int .i64 t201, .int .i64 t202] 24 (0, 0)) (by (with_reducible repeat (first | refine blk_drewN ?_ _ | refine blk_drew ?_ | refine blk_alloc ?_ _)); exact BK204.out) hb); have n2_ := Aside0.mk (below_step (by repeat (first | (with_reducible first | exact HB.out | apply below_alloc | apply pw_below_drewN | apply below_drew1 | refine below_set ?_ GE199.out | refine below_set ?_ GE204.out) | exact HB.out)) hb); clear BK199; clear BK204; clear HB; have BK199 := n0_; have BK204 := n1_; have HB := n2_; clear n0_ n1_ n2_; (try clear hb); (try clear hb2); (try clear hk); (try clear hi)))
             go_ret
             exact ⟨by first | rfl | (simp [errW_none, errW_some] <;> rfl) | (simp [*, errW_none, errW_some] <;> rfl), by repeat (first | (with_reducible first | exact HB.out | apply below_alloc | apply pw_below_drewN | apply below_drew1 | refine below_set ?_ GE199.out | refine below_set ?_ GE204.out) | exact HB.out)⟩
            ·
             rw [if_neg c46] at H
             have c46b0 : decide (28 ≤ t197) = false := decide_eq_false c46
             clear c46
             obtain rfl := Option.some.inj H
             have hnb52 := NB204_199.out
             have hnc52 := NB199_204.out
             have hcz53_0 : wc.cell? ⟨gb204, 0, none⟩ = some (.int .i64 t200) := (blk_cell BK204.out 0).trans rfl
             have hcz53_1 : wc.cell? ⟨gb204, 1, none⟩ = some (.int .i64 t201) := (blk_cell BK204.out 1).trans rfl
             have hcz53_2 : wc.cell? ⟨gb204, 2, none⟩ = some (.int .i64 t202) := (blk_cell BK204.out 2).trans rfl
             have hfz53_0 := blk_frozen BK204.out 0
             have hfz53_1 := blk_frozen BK204.out 1
             have hfz53_2 := blk_frozen BK204.out 2
             have hcz54_0 : wc.cell? ⟨gb199, 0, none⟩ = some (.int .i64 t195) := (blk_cell BK199.out 0).trans rfl
             have hcz54_1 : wc.cell? ⟨gb199, 1, none⟩ = some (.int .i64 t196) := (blk_cell BK199.out 1).trans rfl
             have hcz54_2 : wc.cell? ⟨gb199, 2, none⟩ = some (.int .i64 t197) := (blk_cell BK199.out 2).trans rfl
             have hfz54_0 := blk_frozen BK199.out 0
             have hfz54_1 := blk_frozen BK199.out 1
             have hfz54_2 := blk_frozen BK199.out 2
             go_wp2
             go_ret
             exact ⟨by first | rfl | (simp [errW_none, errW_some] <;> rfl) | (simp [*, errW_none, errW_some] <;> rfl), by repeat (first | (with_reducible first | exact HB.out | apply below_alloc | apply pw_below_drewN | apply below_drew1 | refine below_set ?_ GE199.out | refine below_set ?_ GE204.out) | exact HB.out)⟩
          ·
           rw [if_neg c39] at H
           have c39b0 : (t201 == 1) = false := beq_eq_false_iff_ne.mpr c39
           have c39b1 : (t201 != 1) = true := bne_iff_ne.mpr c39
           by_cases c55 : t202 = (wrap64 (t197 + 1))
           ·
            rw [if_pos c55] at H
            have c55b0 : (t202 == (wrap64 (t197 + 1))) = true := beq_iff_eq.mpr c55
            have c55b1 : (t202 != (wrap64 (t197 + 1))) = false := bne_eq_false_iff_eq.mpr c55
            clear c55
            replace H := Option.bind_eq_some_iff.mp H
            obtain ⟨t211, A560, H⟩ := H
            replace H : (some t211) = some r := H
            have A56 := Aside0.mk A560
            clear A560
            obtain rfl := Option.some.inj H
            have hnb57 := NB204_199.out
            have hnc57 := NB199_204.out
            have hcz58_0 : wc.cell? ⟨gb204, 0, none⟩ = some (.int .i64 t200) := (blk_cell BK204.out 0).trans rfl
            have hcz58_1 : wc.cell? ⟨gb204, 1, none⟩ = some (.int .i64 t201) := (blk_cell BK204.out 1).trans rfl
            have hcz58_2 : wc.cell? ⟨gb204, 2, none⟩ = some (.int .i64 t202) := (blk_cell BK204.out 2).trans rfl
            have hfz58_0 := blk_frozen BK204.out 0
            have hfz58_1 := blk_frozen BK204.out 1
            have hfz58_2 := blk_frozen BK204.out 2
            have hcz59_0 : wc.cell? ⟨gb199, 0, none⟩ = some (.int .i64 t195) := (blk_cell BK199.out 0).trans rfl
            have hcz59_1 : wc.cell? ⟨gb199, 1, none⟩ = some (.int .i64 t196) := (blk_cell BK199.out 1).trans rfl
            have hcz59_2 : wc.cell? ⟨gb199, 2, none⟩ = some (.int .i64 t197) := (blk_cell BK199.out 2).trans rfl
            have hfz59_0 := blk_frozen BK199.out 0
            have hfz59_1 := blk_frozen BK199.out 1
            have hfz59_2 := blk_frozen BK199.out 2
            go_wp2_with (first | (go_at_call 17; (with_reducible refine (customslaw04_awake.calls kj4  t211 _ ?side1 A56.out).mono ?_); (case side1 => exact GL_lengths.of_below (by repeat (first | (with_reducible first | exact HB.out | apply below_alloc | apply pw_below_drewN | apply below_drew1 | refine below_set ?_ GE199.out | refine below_set ?_ GE204.out) | exact HB.out)) HG_lengths.out); rintro e w60 ⟨rfl, hb⟩; have n0_ := Aside0.mk (blk_below (g := gb199) (o := .cells #[.int .i64 t195, .int .i64 t196, .int .i64 t197] 24 (0, 0)) (by (with_reducible repeat (first | refine blk_drewN ?_ _ | refine blk_drew ?_ | refine blk_alloc ?_ _)); exact BK199.out) hb); have n1_ := Aside0.mk (blk_below (g := gb204) (o := .cells #[.int .i64 t200, .int .i64 t201, .int .i64 t202] 24 (0, 0)) (by (with_reducible repeat (first | refine blk_drewN ?_ _ | refine blk_drew ?_ | refine blk_alloc ?_ _)); exact BK204.out) hb); have n2_ := Aside0.mk (below_step (by repeat (first | (with_reducible first | exact HB.out | apply below_alloc | apply pw_below_drewN | apply below_drew1 | refine below_set ?_ GE199.out | refine below_set ?_ GE204.out) | exact HB.out)) hb); clear BK199; clear BK204; clear HB; have BK199 := n0_; have BK204 := n1_; have HB := n2_; clear n0_ n1_ n2_; (try clear hb); (try clear hb2); (try clear hk); (try clear hi)))
            go_ret
            exact ⟨by first | rfl | (simp [errW_none, errW_some] <;> rfl) | (simp [*, errW_none, errW_some] <;> rfl), by repeat (first | (with_reducible first | exact HB.out | apply below_alloc | apply pw_below_drewN | apply below_drew1 | refine below_set ?_ GE199.out | refine below_set ?_ GE204.out) | exact HB.out)⟩
           ·
            rw [if_neg c55] at H
            have c55b0 : (t202 == (wrap64 (t197 + 1))) = false := beq_eq_false_iff_ne.mpr c55
            have c55b1 : (t202 != (wrap64 (t197 + 1))) = true := bne_iff_ne.mpr c55
            obtain rfl := Option.some.inj H
            have hnb61 := NB204_199.out
            have hnc61 := NB199_204.out
            have hcz62_0 : wc.cell? ⟨gb204, 0, none⟩ = some (.int .i64 t200) := (blk_cell BK204.out 0).trans rfl
            have hcz62_1 : wc.cell? ⟨gb204, 1, none⟩ = some (.int .i64 t201) := (blk_cell BK204.out 1).trans rfl
            have hcz62_2 : wc.cell? ⟨gb204, 2, none⟩ = some (.int .i64 t202) := (blk_cell BK204.out 2).trans rfl
            have hfz62_0 := blk_frozen BK204.out 0
            have hfz62_1 := blk_frozen BK204.out 1
            have hfz62_2 := blk_frozen BK204.out 2
            have hcz63_0 : wc.cell? ⟨gb199, 0, none⟩ = some (.int .i64 t195) := (blk_cell BK199.out 0).trans rfl
            have hcz63_1 : wc.cell? ⟨gb199, 1, none⟩ = some (.int .i64 t196) := (blk_cell BK199.out 1).trans rfl
            have hcz63_2 : wc.cell? ⟨gb199, 2, none⟩ = some (.int .i64 t197) := (blk_cell BK199.out 2).trans rfl
            have hfz63_0 := blk_frozen BK199.out 0
            have hfz63_1 := blk_frozen BK199.out 1
            have hfz63_2 := blk_frozen BK199.out 2
            go_wp2
            go_ret
            exact ⟨by first | rfl | (simp [errW_none, errW_some] <;> rfl) | (simp [*, errW_none, errW_some] <;> rfl), by repeat (first | (with_reducible first | exact HB.out | apply below_alloc | apply pw_below_drewN | apply below_drew1 | refine below_set ?_ GE199.out | refine below_set ?_ GE204.out) | exact HB.out)⟩
         ·
          rw [if_neg c38] at H
          have c38b0 : (t196 == 12) = false := beq_eq_false_iff_ne.mpr c38
          have c38b1 : (t196 != 12) = true := bne_iff_ne.mpr c38
          by_cases c64 : t202 = (wrap64 (t197 + 1))
          ·
           rw [if_pos c64] at H
           have c64b0 : (t202 == (wrap64 (t197 + 1))) = true := beq_iff_eq.mpr c64
           have c64b1 : (t202 != (wrap64 (t197 + 1))) = false := bne_eq_false_iff_eq.mpr c64
           clear c64
           replace H := Option.bind_eq_some_iff.mp H
           obtain ⟨t212, A650, H⟩ := H
           replace H : (some t212) = some r := H
           have A65 := Aside0.mk A650
           clear A650
           obtain rfl := Option.some.inj H
           have hnb66 := NB204_199.out
           have hnc66 := NB199_204.out
           have hcz67_0 : wc.cell? ⟨gb204, 0, none⟩ = some (.int .i64 t200) := (blk_cell BK204.out 0).trans rfl
           have hcz67_1 : wc.cell? ⟨gb204, 1, none⟩ = some (.int .i64 t201) := (blk_cell BK204.out 1).trans rfl
           have hcz67_2 : wc.cell? ⟨gb204, 2, none⟩ = some (.int .i64 t202) := (blk_cell BK204.out 2).trans rfl
           have hfz67_0 := blk_frozen BK204.out 0
           have hfz67_1 := blk_frozen BK204.out 1
           have hfz67_2 := blk_frozen BK204.out 2
           have hcz68_0 : wc.cell? ⟨gb199, 0, none⟩ = some (.int .i64 t195) := (blk_cell BK199.out 0).trans rfl
           have hcz68_1 : wc.cell? ⟨gb199, 1, none⟩ = some (.int .i64 t196) := (blk_cell BK199.out 1).trans rfl
           have hcz68_2 : wc.cell? ⟨gb199, 2, none⟩ = some (.int .i64 t197) := (blk_cell BK199.out 2).trans rfl
           have hfz68_0 := blk_frozen BK199.out 0
           have hfz68_1 := blk_frozen BK199.out 1
           have hfz68_2 := blk_frozen BK199.out 2
           go_wp2_with (first | (go_at_call 17; (with_reducible refine (customslaw04_awake.calls kj4  t212 _ ?side1 A65.out).mono ?_); (case side1 => exact GL_lengths.of_below (by repeat (first | (with_reducible first | exact HB.out | apply below_alloc | apply pw_below_drewN | apply below_drew1 | refine below_set ?_ GE199.out | refine below_set ?_ GE204.out) | exact HB.out)) HG_lengths.out); rintro e w69 ⟨rfl, hb⟩; have n0_ := Aside0.mk (blk_below (g := gb199) (o := .cells #[.int .i64 t195, .int .i64 t196, .int .i64 t197] 24 (0, 0)) (by (with_reducible repeat (first | refine blk_drewN ?_ _ | refine blk_drew ?_ | refine blk_alloc ?_ _)); exact BK199.out) hb); have n1_ := Aside0.mk (blk_below (g := gb204) (o := .cells #[.int .i64 t200, .int .i64 t201, .int .i64 t202] 24 (0, 0)) (by (with_reducible repeat (first | refine blk_drewN ?_ _ | refine blk_drew ?_ | refine blk_alloc ?_ _)); exact BK204.out) hb); have n2_ := Aside0.mk (below_step (by repeat (first | (with_reducible first | exact HB.out | apply below_alloc | apply pw_below_drewN | apply below_drew1 | refine below_set ?_ GE199.out | refine below_set ?_ GE204.out) | exact HB.out)) hb); clear BK199; clear BK204; clear HB; have BK199 := n0_; have BK204 := n1_; have HB := n2_; clear n0_ n1_ n2_; (try clear hb); (try clear hb2); (try clear hk); (try clear hi)))
           go_ret
           exact ⟨by first | rfl | (simp [errW_none, errW_some] <;> rfl) | (simp [*, errW_none, errW_some] <;> rfl), by repeat (first | (with_reducible first | exact HB.out | apply below_alloc | apply pw_below_drewN | apply below_drew1 | refine below_set ?_ GE199.out | refine below_set ?_ GE204.out) | exact HB.out)⟩
          ·
           rw [if_neg c64] at H
           have c64b0 : (t202 == (wrap64 (t197 + 1))) = false := beq_eq_false_iff_ne.mpr c64
           have c64b1 : (t202 != (wrap64 (t197 + 1))) = true := bne_iff_ne.mpr c64
           obtain rfl := Option.some.inj H
           have hnb70 := NB204_199.out
           have hnc70 := NB199_204.out
           have hcz71_0 : wc.cell? ⟨gb204, 0, none⟩ = some (.int .i64 t200) := (blk_cell BK204.out 0).trans rfl
           have hcz71_1 : wc.cell? ⟨gb204, 1, none⟩ = some (.int .i64 t201) := (blk_cell BK204.out 1).trans rfl
           have hcz71_2 : wc.cell? ⟨gb204, 2, none⟩ = some (.int .i64 t202) := (blk_cell BK204.out 2).trans rfl
           have hfz71_0 := blk_frozen BK204.out 0
           have hfz71_1 := blk_frozen BK204.out 1
           have hfz71_2 := blk_frozen BK204.out 2
           have hcz72_0 : wc.cell? ⟨gb199, 0, none⟩ = some (.int .i64 t195) := (blk_cell BK199.out 0).trans rfl
           have hcz72_1 : wc.cell? ⟨gb199, 1, none⟩ = some (.int .i64 t196) := (blk_cell BK199.out 1).trans rfl
           have hcz72_2 : wc.cell? ⟨gb199, 2, none⟩ = some (.int .i64 t197) := (blk_cell BK199.out 2).trans rfl
           have hfz72_0 := blk_frozen BK199.out 0
           have hfz72_1 := blk_frozen BK199.out 1
           have hfz72_2 := blk_frozen BK199.out 2
           go_wp2
           go_ret
           exact ⟨by first | rfl | (simp [errW_none, errW_some] <;> rfl) | (simp [*, errW_none, errW_some] <;> rfl), by repeat (first | (with_reducible first | exact HB.out | apply below_alloc | apply pw_below_drewN | apply below_drew1 | refine below_set ?_ GE199.out | refine below_set ?_ GE204.out) | exact HB.out)⟩
        ·
         rw [if_neg c37] at H
         have c37b0 : (t200 == (wrap64 (t195 + 1))) = false := beq_eq_false_iff_ne.mpr c37
         have c37b1 : (t200 != (wrap64 (t195 + 1))) = true := bne_iff_ne.mpr c37
         by_cases c73 : t202 = (wrap64 (t197 + 1))
         ·
          rw [if_pos c73] at H
          have c73b0 : (t202 == (wrap64 (t197 + 1))) = true := beq_iff_eq.mpr c73
          have c73b1 : (t202 != (wrap64 (t197 + 1))) = false := bne_eq_false_iff_eq.mpr c73
          clear c73
          replace H := Option.bind_eq_some_iff.mp H
          obtain ⟨t213, A740, H⟩ := H
          replace H : (some t213) = some r := H
          have A74 := Aside0.mk A740
          clear A740
          obtain rfl := Option.some.inj H
          have hnb75 := NB204_199.out
          have hnc75 := NB199_204.out
          have hcz76_0 : wc.cell? ⟨gb204, 0, none⟩ = some (.int .i64 t200) := (blk_cell BK204.out 0).trans rfl
          have hcz76_1 : wc.cell? ⟨gb204, 1, none⟩ = some (.int .i64 t201) := (blk_cell BK204.out 1).trans rfl
          have hcz76_2 : wc.cell? ⟨gb204, 2, none⟩ = some (.int .i64 t202) := (blk_cell BK204.out 2).trans rfl
          have hfz76_0 := blk_frozen BK204.out 0
          have hfz76_1 := blk_frozen BK204.out 1
          have hfz76_2 := blk_frozen BK204.out 2
          have hcz77_0 : wc.cell? ⟨gb199, 0, none⟩ = some (.int .i64 t195) := (blk_cell BK199.out 0).trans rfl
          have hcz77_1 : wc.cell? ⟨gb199, 1, none⟩ = some (.int .i64 t196) := (blk_cell BK199.out 1).trans rfl
          have hcz77_2 : wc.cell? ⟨gb199, 2, none⟩ = some (.int .i64 t197) := (blk_cell BK199.out 2).trans rfl
          have hfz77_0 := blk_frozen BK199.out 0
          have hfz77_1 := blk_frozen BK199.out 1
          have hfz77_2 := blk_frozen BK199.out 2
          go_wp2_with (first | (go_at_call 17; (with_reducible refine (customslaw04_awake.calls kj4  t213 _ ?side1 A74.out).mono ?_); (case side1 => exact GL_lengths.of_below (by repeat (first | (with_reducible first | exact HB.out | apply below_alloc | apply pw_below_drewN | apply below_drew1 | refine below_set ?_ GE199.out | refine below_set ?_ GE204.out) | exact HB.out)) HG_lengths.out); rintro e w78 ⟨rfl, hb⟩; have n0_ := Aside0.mk (blk_below (g := gb199) (o := .cells #[.int .i64 t195, .int .i64 t196, .int .i64 t197] 24 (0, 0)) (by (with_reducible repeat (first | refine blk_drewN ?_ _ | refine blk_drew ?_ | refine blk_alloc ?_ _)); exact BK199.out) hb); have n1_ := Aside0.mk (blk_below (g := gb204) (o := .cells #[.int .i64 t200, .int .i64 t201, .int .i64 t202] 24 (0, 0)) (by (with_reducible repeat (first | refine blk_drewN ?_ _ | refine blk_drew ?_ | refine blk_alloc ?_ _)); exact BK204.out) hb); have n2_ := Aside0.mk (below_step (by repeat (first | (with_reducible first | exact HB.out | apply below_alloc | apply pw_below_drewN | apply below_drew1 | refine below_set ?_ GE199.out | refine below_set ?_ GE204.out) | exact HB.out)) hb); clear BK199; clear BK204; clear HB; have BK199 := n0_; have BK204 := n1_; have HB := n2_; clear n0_ n1_ n2_; (try clear hb); (try clear hb2); (try clear hk); (try clear hi)))
          go_ret
          exact ⟨by first | rfl | (simp [errW_none, errW_some] <;> rfl) | (simp [*, errW_none, errW_some] <;> rfl), by repeat (first | (with_reducible first | exact HB.out | apply below_alloc | apply pw_below_drewN | apply below_drew1 | refine below_set ?_ GE199.out | refine below_set ?_ GE204.out) | exact HB.out)⟩
         ·
          rw [if_neg c73] at H
          have c73b0 : (t202 == (wrap64 (t197 + 1))) = false := beq_eq_false_iff_ne.mpr c73
          have c73b1 : (t202 != (wrap64 (t197 + 1))) = true := bne_iff_ne.mpr c73
          obtain rfl := Option.some.inj H
          have hnb79 := NB204_199.out
          have hnc79 := NB199_204.out
          have hcz80_0 : wc.cell? ⟨gb204, 0, none⟩ = some (.int .i64 t200) := (blk_cell BK204.out 0).trans rfl
          have hcz80_1 : wc.cell? ⟨gb204, 1, none⟩ = some (.int .i64 t201) := (blk_cell BK204.out 1).trans rfl
          have hcz80_2 : wc.cell? ⟨gb204, 2, none⟩ = some (.int .i64 t202) := (blk_cell BK204.out 2).trans rfl
          have hfz80_0 := blk_frozen BK204.out 0
          have hfz80_1 := blk_frozen BK204.out 1
          have hfz80_2 := blk_frozen BK204.out 2
          have hcz81_0 : wc.cell? ⟨gb199, 0, none⟩ = some (.int .i64 t195) := (blk_cell BK199.out 0).trans rfl
          have hcz81_1 : wc.cell? ⟨gb199, 1, none⟩ = some (.int .i64 t196) := (blk_cell BK199.out 1).trans rfl
          have hcz81_2 : wc.cell? ⟨gb199, 2, none⟩ = some (.int .i64 t197) := (blk_cell BK199.out 2).trans rfl
          have hfz81_0 := blk_frozen BK199.out 0
          have hfz81_1 := blk_frozen BK199.out 1
          have hfz81_2 := blk_frozen BK199.out 2
          go_wp2
          go_ret
          exact ⟨by first | rfl | (simp [errW_none, errW_some] <;> rfl) | (simp [*, errW_none, errW_some] <;> rfl), by repeat (first | (with_reducible first | exact HB.out | apply below_alloc | apply pw_below_drewN | apply below_drew1 | refine below_set ?_ GE199.out | refine below_set ?_ GE204.out) | exact HB.out)⟩
      ·
       rw [if_neg c20] at H
       have c20b0 : (t202 == 1) = false := beq_eq_false_iff_ne.mpr c20
       have c20b1 : (t202 != 1) = true := bne_iff_ne.mpr c20
       by_cases c82 : t202 = (wrap64 (t197 + 1))
       ·
        rw [if_pos c82] at H
        have c82b0 : (t202 == (wrap64 (t197 + 1))) = true := beq_iff_eq.mpr c82
        have c82b1 : (t202 != (wrap64 (t197 + 1))) = false := bne_eq_false_iff_eq.mpr c82
        clear c82
        replace H := Option.bind_eq_some_iff.mp H
        obtain ⟨t214, A830, H⟩ := H
        replace H : (some t214) = some r := H
        have A83 := Aside0.mk A830
        clear A830
        obtain rfl := Option.some.inj H
        have hnb84 := NB204_199.out
        have hnc84 := NB199_204.out
        have hcz85_0 : wc.cell? ⟨gb204, 0, none⟩ = some (.int .i64 t200) := (blk_cell BK204.out 0).trans rfl
        have hcz85_1 : wc.cell? ⟨gb204, 1, none⟩ = some (.int .i64 t201) := (blk_cell BK204.out 1).trans rfl
        have hcz85_2 : wc.cell? ⟨gb204, 2, none⟩ = some (.int .i64 t202) := (blk_cell BK204.out 2).trans rfl
        have hfz85_0 := blk_frozen BK204.out 0
        have hfz85_1 := blk_frozen BK204.out 1
        have hfz85_2 := blk_frozen BK204.out 2
        have hcz86_0 : wc.cell? ⟨gb199, 0, none⟩ = some (.int .i64 t195) := (blk_cell BK199.out 0).trans rfl
        have hcz86_1 : wc.cell? ⟨gb199, 1, none⟩ = some (.int .i64 t196) := (blk_cell BK199.out 1).trans rfl
        have hcz86_2 : wc.cell? ⟨gb199, 2, none⟩ = some (.int .i64 t197) := (blk_cell BK199.out 2).trans rfl
        have hfz86_0 := blk_frozen BK199.out 0
        have hfz86_1 := blk_frozen BK199.out 1
        have hfz86_2 := blk_frozen BK199.out 2
        go_wp2_with (first | (go_at_call 17; (with_reducible refine (customslaw04_awake.calls kj4  t214 _ ?side1 A83.out).mono ?_); (case side1 => exact GL_lengths.of_below (by repeat (first | (with_reducible first | exact HB.out | apply below_alloc | apply pw_below_drewN | apply below_drew1 | refine below_set ?_ GE199.out | refine below_set ?_ GE204.out) | exact HB.out)) HG_lengths.out); rintro e w87 ⟨rfl, hb⟩; have n0_ := Aside0.mk (blk_below (g := gb199) (o := .cells #[.int .i64 t195, .int .i64 t196, .int .i64 t197] 24 (0, 0)) (by (with_reducible repeat (first | refine blk_drewN ?_ _ | refine blk_drew ?_ | refine blk_alloc ?_ _)); exact BK199.out) hb); have n1_ := Aside0.mk (blk_below (g := gb204) (o := .cells #[.int .i64 t200, .int .i64 t201, .int .i64 t202] 24 (0, 0)) (by (with_reducible repeat (first | refine blk_drewN ?_ _ | refine blk_drew ?_ | refine blk_alloc ?_ _)); exact BK204.out) hb); have n2_ := Aside0.mk (below_step (by repeat (first | (with_reducible first | exact HB.out | apply below_alloc | apply pw_below_drewN | apply below_drew1 | refine below_set ?_ GE199.out | refine below_set ?_ GE204.out) | exact HB.out)) hb); clear BK199; clear BK204; clear HB; have BK199 := n0_; have BK204 := n1_; have HB := n2_; clear n0_ n1_ n2_; (try clear hb); (try clear hb2); (try clear hk); (try clear hi)))
        go_ret
        exact ⟨by first | rfl | (simp [errW_none, errW_some] <;> rfl) | (simp [*, errW_none, errW_some] <;> rfl), by repeat (first | (with_reducible first | exact HB.out | apply below_alloc | apply pw_below_drewN | apply below_drew1 | refine below_set ?_ GE199.out | refine below_set ?_ GE204.out) | exact HB.out)⟩
       ·
        rw [if_neg c82] at H
        have c82b0 : (t202 == (wrap64 (t197 + 1))) = false := beq_eq_false_iff_ne.mpr c82
        have c82b1 : (t202 != (wrap64 (t197 + 1))) = true := bne_iff_ne.mpr c82
        obtain rfl := Option.some.inj H
        have hnb88 := NB204_199.out
        have hnc88 := NB199_204.out
        have hcz89_0 : wc.cell? ⟨gb204, 0, none⟩ = some (.int .i64 t200) := (blk_cell BK204.out 0).trans rfl
        have hcz89_1 : wc.cell? ⟨gb204, 1, none⟩ = some (.int .i64 t201) := (blk_cell BK204.out 1).trans rfl
        have hcz89_2 : wc.cell? ⟨gb204, 2, none⟩ = some (.int .i64 t202) := (blk_cell BK204.out 2).trans rfl
        have hfz89_0 := blk_frozen BK204.out 0
        have hfz89_1 := blk_frozen BK204.out 1
        have hfz89_2 := blk_frozen BK204.out 2
        have hcz90_0 : wc.cell? ⟨gb199, 0, none⟩ = some (.int .i64 t195) := (blk_cell BK199.out 0).trans rfl
        have hcz90_1 : wc.cell? ⟨gb199, 1, none⟩ = some (.int .i64 t196) := (blk_cell BK199.out 1).trans rfl
        have hcz90_2 : wc.cell? ⟨gb199, 2, none⟩ = some (.int .i64 t197) := (blk_cell BK199.out 2).trans rfl
        have hfz90_0 := blk_frozen BK199.out 0
        have hfz90_1 := blk_frozen BK199.out 1
        have hfz90_2 := blk_frozen BK199.out 2
        go_wp2
        go_ret
        exact ⟨by first | rfl | (simp [errW_none, errW_some] <;> rfl) | (simp [*, errW_none, errW_some] <;> rfl), by repeat (first | (with_reducible first | exact HB.out | apply below_alloc | apply pw_below_drewN | apply below_drew1 | refine below_set ?_ GE199.out | refine below_set ?_ GE204.out) | exact HB.out)⟩
     ·
      rw [if_neg c19] at H
      have c19b0 : (t201 == t196) = false := beq_eq_false_iff_ne.mpr c19
      have c19b1 : (t201 != t196) = true := bne_iff_ne.mpr c19
      by_cases c91 : t202 = 1
      ·
       rw [if_pos c91] at H
       have c91b0 : (t202 == 1) = true := beq_iff_eq.mpr c91
       have c91b1 : (t202 != 1) = false := bne_eq_false_iff_eq.mpr c91
       clear c91
       by_cases c92 : t201 = (wrap64 (t196 + 1))
       ·
        rw [if_pos c92] at H
        have c92b0 : (t201 == (wrap64 (t196 + 1))) = true := beq_iff_eq.mpr c92
        have c92b1 : (t201 != (wrap64 (t196 + 1))) = false := bne_eq_false_iff_eq.mpr c92
        clear c92
        by_cases c93 : t197 ≥ 28
        ·
         rw [if_pos c93] at H
         have c93b0 : decide (28 ≤ t197) = true := decide_eq_true c93
         clear c93
         replace H := Option.bind_eq_some_iff.mp H
         obtain ⟨t215, A940, H⟩ := H
         replace H : (some t215) = some r := H
         have A94 := Aside0.mk A940
         clear A940
         obtain rfl := Option.some.inj H
         have hnb95 := NB204_199.out
         have hnc95 := NB199_204.out
         have hcz96_0 : wc.cell? ⟨gb204, 0, none⟩ = some (.int .i64 t200) := (blk_cell BK204.out 0).trans rfl
         have hcz96_1 : wc.cell? ⟨gb204, 1, none⟩ = some (.int .i64 t201) := (blk_cell BK204.out 1).trans rfl
         have hcz96_2 : wc.cell? ⟨gb204, 2, none⟩ = some (.int .i64 t202) := (blk_cell BK204.out 2).trans rfl
         have hfz96_0 := blk_frozen BK204.out 0
         have hfz96_1 := blk_frozen BK204.out 1
         have hfz96_2 := blk_frozen BK204.out 2
         have hcz97_0 : wc.cell? ⟨gb199, 0, none⟩ = some (.int .i64 t195) := (blk_cell BK199.out 0).trans rfl
         have hcz97_1 : wc.cell? ⟨gb199, 1, none⟩ = some (.int .i64 t196) := (blk_cell BK199.out 1).trans rfl
         have hcz97_2 : wc.cell? ⟨gb199, 2, none⟩ = some (.int .i64 t197) := (blk_cell BK199.out 2).trans rfl
         have hfz97_0 := blk_frozen BK199.out 0
         have hfz97_1 := blk_frozen BK199.out 1
         have hfz97_2 := blk_frozen BK199.out 2
         go_wp2_with (first | (go_at_call 17; (with_reducible refine (customslaw04_awake.calls kj4  t215 _ ?side1 A94.out).mono ?_); (case side1 => exact GL_lengths.of_below (by repeat (first | (with_reducible first | exact HB.out | apply below_alloc | apply pw_below_drewN | apply below_drew1 | refine below_set ?_ GE199.out | refine below_set ?_ GE204.out) | exact HB.out)) HG_lengths.out); rintro e w98 ⟨rfl, hb⟩; have n0_ := Aside0.mk (blk_below (g := gb199) (o := .cells #[.int .i64 t195, .int .i64 t196, .int .i64 t197] 24 (0, 0)) (by (with_reducible repeat (first | refine blk_drewN ?_ _ | refine blk_drew ?_ | refine blk_alloc ?_ _)); exact BK199.out) hb); have n1_ := Aside0.mk (blk_below (g := gb204) (o := .cells #[.int .i64 t200, .int .i64 t201, .int .i64 t202] 24 (0, 0)) (by (with_reducible repeat (first | refine blk_drewN ?_ _ | refine blk_drew ?_ | refine blk_alloc ?_ _)); exact BK204.out) hb); have n2_ := Aside0.mk (below_step (by repeat (first | (with_reducible first | exact HB.out | apply below_alloc | apply pw_below_drewN | apply below_drew1 | refine below_set ?_ GE199.out | refine below_set ?_ GE204.out) | exact HB.out)) hb); clear BK199; clear BK204; clear HB; have BK199 := n0_; have BK204 := n1_; have HB := n2_; clear n0_ n1_ n2_; (try clear hb); (try clear hb2); (try clear hk); (try clear hi)))
         go_ret
         exact ⟨by first | rfl | (simp [errW_none, errW_some] <;> rfl) | (simp [*, errW_none, errW_some] <;> rfl), by repeat (first | (with_reducible first | exact HB.out | apply below_alloc | apply pw_below_drewN | apply below_drew1 | refine below_set ?_ GE199.out | refine below_set ?_ GE204.out) | exact HB.out)⟩
        ·
         rw [if_neg c93] at H
         have c93b0 : decide (28 ≤ t197) = false := decide_eq_false c93
         clear c93
         obtain rfl := Option.some.inj H
         have hnb99 := NB204_199.out
         have hnc99 := NB199_204.out
         have hcz100_0 : wc.cell? ⟨gb204, 0, none⟩ = some (.int .i64 t200) := (blk_cell BK204.out 0).trans rfl
         have hcz100_1 : wc.cell? ⟨gb204, 1, none⟩ = some (.int .i64 t201) := (blk_cell BK204.out 1).trans rfl
         have hcz100_2 : wc.cell? ⟨gb204, 2, none⟩ = some (.int .i64 t202) := (blk_cell BK204.out 2).trans rfl
         have hfz100_0 := blk_frozen BK204.out 0
         have hfz100_1 := blk_frozen BK204.out 1
         have hfz100_2 := blk_frozen BK204.out 2
         have hcz101_0 : wc.cell? ⟨gb199, 0, none⟩ = some (.int .i64 t195) := (blk_cell BK199.out 0).trans rfl
         have hcz101_1 : wc.cell? ⟨gb199, 1, none⟩ = some (.int .i64 t196) := (blk_cell BK199.out 1).trans rfl
         have hcz101_2 : wc.cell? ⟨gb199, 2, none⟩ = some (.int .i64 t197) := (blk_cell BK199.out 2).trans rfl
         have hfz101_0 := blk_frozen BK199.out 0
         have hfz101_1 := blk_frozen BK199.out 1
         have hfz101_2 := blk_frozen BK199.out 2
         go_wp2
         go_ret
         exact ⟨by first | rfl | (simp [errW_none, errW_some] <;> rfl) | (simp [*, errW_none, errW_some] <;> rfl), by repeat (first | (with_reducible first | exact HB.out | apply below_alloc | apply pw_below_drewN | apply below_drew1 | refine below_set ?_ GE199.out | refine below_set ?_ GE204.out) | exact HB.out)⟩
       ·
        rw [if_neg c92] at H
        have c92b0 : (t201 == (wrap64 (t196 + 1))) = false := beq_eq_false_iff_ne.mpr c92
        have c92b1 : (t201 != (wrap64 (t196 + 1))) = true := bne_iff_ne.mpr c92
        by_cases c102 : t200 = (wrap64 (t195 + 1))
        ·
         rw [if_pos c102] at H
         have c102b0 : (t200 == (wrap64 (t195 + 1))) = true := beq_iff_eq.mpr c102
         have c102b1 : (t200 != (wrap64 (t195 + 1))) = false := bne_eq_false_iff_eq.mpr c102
         clear c102
         by_cases c103 : t196 = 12
         ·
          rw [if_pos c103] at H
          have c103b0 : (t196 == 12) = true := beq_iff_eq.mpr c103
          have c103b1 : (t196 != 12) = false := bne_eq_false_iff_eq.mpr c103
          clear c103
          by_cases c104 : t201 = 1
          ·
           rw [if_pos c104] at H
           have c104b0 : (t201 == 1) = true := beq_iff_eq.mpr c104
           have c104b1 : (t201 != 1) = false := bne_eq_false_iff_eq.mpr c104
           clear c104
           by_cases c105 : t197 ≥ 28
           ·
            rw [if_pos c105] at H
            have c105b0 : decide (28 ≤ t197) = true := decide_eq_true c105
            clear c105
            replace H := Option.bind_eq_some_iff.mp H
            obtain ⟨t216, A1060, H⟩ := H
            replace H : (some t216) = some r := H
            have A106 := Aside0.mk A1060
            clear A1060
            obtain rfl := Option.some.inj H
            have hnb107 := NB204_199.out
            have hnc107 := NB199_204.out
            have hcz108_0 : wc.cell? ⟨gb204, 0, none⟩ = some (.int .i64 t200) := (blk_cell BK204.out 0).trans rfl
            have hcz108_1 : wc.cell? ⟨gb204, 1, none⟩ = some (.int .i64 t201) := (blk_cell BK204.out 1).trans rfl
            have hcz108_2 : wc.cell? ⟨gb204, 2, none⟩ = some (.int .i64 t202) := (blk_cell BK204.out 2).trans rfl
            have hfz108_0 := blk_frozen BK204.out 0
            have hfz108_1 := blk_frozen BK204.out 1
            have hfz108_2 := blk_frozen BK204.out 2
            have hcz109_0 : wc.cell? ⟨gb199, 0, none⟩ = some (.int .i64 t195) := (blk_cell BK199.out 0).trans rfl
            have hcz109_1 : wc.cell? ⟨gb199, 1, none⟩ = some (.int .i64 t196) := (blk_cell BK199.out 1).trans rfl
            have hcz109_2 : wc.cell? ⟨gb199, 2, none⟩ = some (.int .i64 t197) := (blk_cell BK199.out 2).trans rfl
            have hfz109_0 := blk_frozen BK199.out 0
            have hfz109_1 := blk_frozen BK199.out 1
            have hfz109_2 := blk_frozen BK199.out 2
            go_wp2_with (first | (go_at_call 17; (with_reducible refine (customslaw04_awake.calls kj4  t216 _ ?side1 A106.out).mono ?_); (case side1 => exact GL_lengths.of_below (by repeat (first | (with_reducible first | exact HB.out | apply below_alloc | apply pw_below_drewN | apply below_drew1 | refine below_set ?_ GE199.out | refine below_set ?_ GE204.out) | exact HB.out)) HG_lengths.out); rintro e w110 ⟨rfl, hb⟩; have n0_ := Aside0.mk (blk_below (g := gb199) (o := .cells #[.int .i64 t195, .int .i64 t196, .int .i64 t197] 24 (0, 0)) (by (with_reducible repeat (first | refine blk_drewN ?_ _ | refine blk_drew ?_ | refine blk_alloc ?_ _)); exact BK199.out) hb); have n1_ := Aside0.mk (blk_below (g := gb204) (o := .cells #[.int .i64 t200, .int .i64 t201, .int .i64 t202] 24 (0, 0)) (by (with_reducible repeat (first | refine blk_drewN ?_ _ | refine blk_drew ?_ | refine blk_alloc ?_ _)); exact BK204.out) hb); have n2_ := Aside0.mk (below_step (by repeat (first | (with_reducible first | exact HB.out | apply below_alloc | apply pw_below_drewN | apply below_drew1 | refine below_set ?_ GE199.out | refine below_set ?_ GE204.out) | exact HB.out)) hb); clear BK199; clear BK204; clear HB; have BK199 := n0_; have BK204 := n1_; have HB := n2_; clear n0_ n1_ n2_; (try clear hb); (try clear hb2); (try clear hk); (try clear hi)))
            go_ret
            exact ⟨by first | rfl | (simp [errW_none, errW_some] <;> rfl) | (simp [*, errW_none, errW_some] <;> rfl), by repeat (first | (with_reducible first | exact HB.out | apply below_alloc | apply pw_below_drewN | apply below_drew1 | refine below_set ?_ GE199.out | refine below_set ?_ GE204.out) | exact HB.out)⟩
           ·
            rw [if_neg c105] at H
            have c105b0 : decide (28 ≤ t197) = false := decide_eq_false c105
            clear c105
            obtain rfl := Option.some.inj H
            have hnb111 := NB204_199.out
            have hnc111 := NB199_204.out
            have hcz112_0 : wc.cell? ⟨gb204, 0, none⟩ = some (.int .i64 t200) := (blk_cell BK204.out 0).trans rfl
            have hcz112_1 : wc.cell? ⟨gb204, 1, none⟩ = some (.int .i64 t201) := (blk_cell BK204.out 1).trans rfl
            have hcz112_2 : wc.cell? ⟨gb204, 2, none⟩ = some (.int .i64 t202) := (blk_cell BK204.out 2).trans rfl
            have hfz112_0 := blk_frozen BK204.out 0
            have hfz112_1 := blk_frozen BK204.out 1
            have hfz112_2 := blk_frozen BK204.out 2
            have hcz113_0 : wc.cell? ⟨gb199, 0, none⟩ = some (.int .i64 t195) := (blk_cell BK199.out 0).trans rfl
            have hcz113_1 : wc.cell? ⟨gb199, 1, none⟩ = some (.int .i64 t196) := (blk_cell BK199.out 1).trans rfl
            have hcz113_2 : wc.cell? ⟨gb199, 2, none⟩ = some (.int .i64 t197) := (blk_cell BK199.out 2).trans rfl
            have hfz113_0 := blk_frozen BK199.out 0
            have hfz113_1 := blk_frozen BK199.out 1
            have hfz113_2 := blk_frozen BK199.out 2
            go_wp2
            go_ret
            exact ⟨by first | rfl | (simp [errW_none, errW_some] <;> rfl) | (simp [*, errW_none, errW_some] <;> rfl), by repeat (first | (with_reducible first | exact HB.out | apply below_alloc | apply pw_below_drewN | apply below_drew1 | refine below_set ?_ GE199.out | refine below_set ?_ GE204.out) | exact HB.out)⟩
          ·
           rw [if_neg c104] at H
           have c104b0 : (t201 == 1) = false := beq_eq_false_iff_ne.mpr c104
           have c104b1 : (t201 != 1) = true := bne_iff_ne.mpr c104
           obtain rfl := Option.some.inj H
           have hnb114 := NB204_199.out
           have hnc114 := NB199_204.out
           have hcz115_0 : wc.cell? ⟨gb204, 0, none⟩ = some (.int .i64 t200) := (blk_cell BK204.out 0).trans rfl
           have hcz115_1 : wc.cell? ⟨gb204, 1, none⟩ = some (.int .i64 t201) := (blk_cell BK204.out 1).trans rfl
           have hcz115_2 : wc.cell? ⟨gb204, 2, none⟩ = some (.int .i64 t202) := (blk_cell BK204.out 2).trans rfl
           have hfz115_0 := blk_frozen BK204.out 0
           have hfz115_1 := blk_frozen BK204.out 1
           have hfz115_2 := blk_frozen BK204.out 2
           have hcz116_0 : wc.cell? ⟨gb199, 0, none⟩ = some (.int .i64 t195) := (blk_cell BK199.out 0).trans rfl
           have hcz116_1 : wc.cell? ⟨gb199, 1, none⟩ = some (.int .i64 t196) := (blk_cell BK199.out 1).trans rfl
           have hcz116_2 : wc.cell? ⟨gb199, 2, none⟩ = some (.int .i64 t197) := (blk_cell BK199.out 2).trans rfl
           have hfz116_0 := blk_frozen BK199.out 0
           have hfz116_1 := blk_frozen BK199.out 1
           have hfz116_2 := blk_frozen BK199.out 2
           go_wp2
           go_ret
           exact ⟨by first | rfl | (simp [errW_none, errW_some] <;> rfl) | (simp [*, errW_none, errW_some] <;> rfl), by repeat (first | (with_reducible first | exact HB.out | apply below_alloc | apply pw_below_drewN | apply below_drew1 | refine below_set ?_ GE199.out | refine below_set ?_ GE204.out) | exact HB.out)⟩
         ·
          rw [if_neg c103] at H
          have c103b0 : (t196 == 12) = false := beq_eq_false_iff_ne.mpr c103
          have c103b1 : (t196 != 12) = true := bne_iff_ne.mpr c103
          obtain rfl := Option.some.inj H
          have hnb117 := NB204_199.out
          have hnc117 := NB199_204.out
          have hcz118_0 : wc.cell? ⟨gb204, 0, none⟩ = some (.int .i64 t200) := (blk_cell BK204.out 0).trans rfl
          have hcz118_1 : wc.cell? ⟨gb204, 1, none⟩ = some (.int .i64 t201) := (blk_cell BK204.out 1).trans rfl
          have hcz118_2 : wc.cell? ⟨gb204, 2, none⟩ = some (.int .i64 t202) := (blk_cell BK204.out 2).trans rfl
          have hfz118_0 := blk_frozen BK204.out 0
          have hfz118_1 := blk_frozen BK204.out 1
          have hfz118_2 := blk_frozen BK204.out 2
          have hcz119_0 : wc.cell? ⟨gb199, 0, none⟩ = some (.int .i64 t195) := (blk_cell BK199.out 0).trans rfl
          have hcz119_1 : wc.cell? ⟨gb199, 1, none⟩ = some (.int .i64 t196) := (blk_cell BK199.out 1).trans rfl
          have hcz119_2 : wc.cell? ⟨gb199, 2, none⟩ = some (.int .i64 t197) := (blk_cell BK199.out 2).trans rfl
          have hfz119_0 := blk_frozen BK199.out 0
          have hfz119_1 := blk_frozen BK199.out 1
          have hfz119_2 := blk_frozen BK199.out 2
          go_wp2
          go_ret
          exact ⟨by first | rfl | (simp [errW_none, errW_some] <;> rfl) | (simp [*, errW_none, errW_some] <;> rfl), by repeat (first | (with_reducible first | exact HB.out | apply below_alloc | apply pw_below_drewN | apply below_drew1 | refine below_set ?_ GE199.out | refine below_set ?_ GE204.out) | exact HB.out)⟩
        ·
         rw [if_neg c102] at H
         have c102b0 : (t200 == (wrap64 (t195 + 1))) = false := beq_eq_false_iff_ne.mpr c102
         have c102b1 : (t200 != (wrap64 (t195 + 1))) = true := bne_iff_ne.mpr c102
         obtain rfl := Option.some.inj H
         have hnb120 := NB204_199.out
         have hnc120 := NB199_204.out
         have hcz121_0 : wc.cell? ⟨gb204, 0, none⟩ = some (.int .i64 t200) := (blk_cell BK204.out 0).trans rfl
         have hcz121_1 : wc.cell? ⟨gb204, 1, none⟩ = some (.int .i64 t201) := (blk_cell BK204.out 1).trans rfl
         have hcz121_2 : wc.cell? ⟨gb204, 2, none⟩ = some (.int .i64 t202) := (blk_cell BK204.out 2).trans rfl
         have hfz121_0 := blk_frozen BK204.out 0
         have hfz121_1 := blk_frozen BK204.out 1
         have hfz121_2 := blk_frozen BK204.out 2
         have hcz122_0 : wc.cell? ⟨gb199, 0, none⟩ = some (.int .i64 t195) := (blk_cell BK199.out 0).trans rfl
         have hcz122_1 : wc.cell? ⟨gb199, 1, none⟩ = some (.int .i64 t196) := (blk_cell BK199.out 1).trans rfl
         have hcz122_2 : wc.cell? ⟨gb199, 2, none⟩ = some (.int .i64 t197) := (blk_cell BK199.out 2).trans rfl
         have hfz122_0 := blk_frozen BK199.out 0
         have hfz122_1 := blk_frozen BK199.out 1
         have hfz122_2 := blk_frozen BK199.out 2
         go_wp2
         go_ret
         exact ⟨by first | rfl | (simp [errW_none, errW_some] <;> rfl) | (simp [*, errW_none, errW_some] <;> rfl), by repeat (first | (with_reducible first | exact HB.out | apply below_alloc | apply pw_below_drewN | apply below_drew1 | refine below_set ?_ GE199.out | refine below_set ?_ GE204.out) | exact HB.out)⟩
      ·
       rw [if_neg c91] at H
       have c91b0 : (t202 == 1) = false := beq_eq_false_iff_ne.mpr c91
       have c91b1 : (t202 != 1) = true := bne_iff_ne.mpr c91
       obtain rfl := Option.some.inj H
       have hnb123 := NB204_199.out
       have hnc123 := NB199_204.out
       have hcz124_0 : wc.cell? ⟨gb204, 0, none⟩ = some (.int .i64 t200) := (blk_cell BK204.out 0).trans rfl
       have hcz124_1 : wc.cell? ⟨gb204, 1, none⟩ = some (.int .i64 t201) := (blk_cell BK204.out 1).trans rfl
       have hcz124_2 : wc.cell? ⟨gb204, 2, none⟩ = some (.int .i64 t202) := (blk_cell BK204.out 2).trans rfl
       have hfz124_0 := blk_frozen BK204.out 0
       have hfz124_1 := blk_frozen BK204.out 1
       have hfz124_2 := blk_frozen BK204.out 2
       have hcz125_0 : wc.cell? ⟨gb199, 0, none⟩ = some (.int .i64 t195) := (blk_cell BK199.out 0).trans rfl
       have hcz125_1 : wc.cell? ⟨gb199, 1, none⟩ = some (.int .i64 t196) := (blk_cell BK199.out 1).trans rfl
       have hcz125_2 : wc.cell? ⟨gb199, 2, none⟩ = some (.int .i64 t197) := (blk_cell BK199.out 2).trans rfl
       have hfz125_0 := blk_frozen BK199.out 0
       have hfz125_1 := blk_frozen BK199.out 1
       have hfz125_2 := blk_frozen BK199.out 2
       go_wp2
       go_ret
       exact ⟨by first | rfl | (simp [errW_none, errW_some] <;> rfl) | (simp [*, errW_none, errW_some] <;> rfl), by repeat (first | (with_reducible first | exact HB.out | apply below_alloc | apply pw_below_drewN | apply below_drew1 | refine below_set ?_ GE199.out | refine below_set ?_ GE204.out) | exact HB.out)⟩
    ·
     rw [if_neg c18] at H
     have c18b0 : (t200 == t195) = false := beq_eq_false_iff_ne.mpr c18
     have c18b1 : (t200 != t195) = true := bne_iff_ne.mpr c18
     by_cases c126 : t202 = 1
     ·
      rw [if_pos c126] at H
      have c126b0 : (t202 == 1) = true := beq_iff_eq.mpr c126
      have c126b1 : (t202 != 1) = false := bne_eq_false_iff_eq.mpr c126
      clear c126
      by_cases c127 : t200 = (wrap64 (t195 + 1))
      ·
       rw [if_pos c127] at H
       have c127b0 : (t200 == (wrap64 (t195 + 1))) = true := beq_iff_eq.mpr c127
       have c127b1 : (t200 != (wrap64 (t195 + 1))) = false := bne_eq_false_iff_eq.mpr c127
       clear c127
       by_cases c128 : t196 = 12
       ·
        rw [if_pos c128] at H
        have c128b0 : (t196 == 12) = true := beq_iff_eq.mpr c128
        have c128b1 : (t196 != 12) = false := bne_eq_false_iff_eq.mpr c128
        clear c128
        by_cases c129 : t201 = 1
        ·
         rw [if_pos c129] at H
         have c129b0 : (t201 == 1) = true := beq_iff_eq.mpr c129
         have c129b1 : (t201 != 1) = false := bne_eq_false_iff_eq.mpr c129
         clear c129
         by_cases c130 : t197 ≥ 28
         ·
          rw [if_pos c130] at H
          have c130b0 : decide (28 ≤ t197) = true := decide_eq_true c130
          clear c130
          replace H := Option.bind_eq_some_iff.mp H
          obtain ⟨t217, A1310, H⟩ := H
          replace H : (some t217) = some r := H
          have A131 := Aside0.mk A1310
          clear A1310
          obtain rfl := Option.some.inj H
          have hnb132 := NB204_199.out
          have hnc132 := NB199_204.out
          have hcz133_0 : wc.cell? ⟨gb204, 0, none⟩ = some (.int .i64 t200) := (blk_cell BK204.out 0).trans rfl
          have hcz133_1 : wc.cell? ⟨gb204, 1, none⟩ = some (.int .i64 t201) := (blk_cell BK204.out 1).trans rfl
          have hcz133_2 : wc.cell? ⟨gb204, 2, none⟩ = some (.int .i64 t202) := (blk_cell BK204.out 2).trans rfl
          have hfz133_0 := blk_frozen BK204.out 0
          have hfz133_1 := blk_frozen BK204.out 1
          have hfz133_2 := blk_frozen BK204.out 2
          have hcz134_0 : wc.cell? ⟨gb199, 0, none⟩ = some (.int .i64 t195) := (blk_cell BK199.out 0).trans rfl
          have hcz134_1 : wc.cell? ⟨gb199, 1, none⟩ = some (.int .i64 t196) := (blk_cell BK199.out 1).trans rfl
          have hcz134_2 : wc.cell? ⟨gb199, 2, none⟩ = some (.int .i64 t197) := (blk_cell BK199.out 2).trans rfl
          have hfz134_0 := blk_frozen BK199.out 0
          have hfz134_1 := blk_frozen BK199.out 1
          have hfz134_2 := blk_frozen BK199.out 2
          go_wp2_with (first | (go_at_call 17; (with_reducible refine (customslaw04_awake.calls kj4  t217 _ ?side1 A131.out).mono ?_); (case side1 => exact GL_lengths.of_below (by repeat (first | (with_reducible first | exact HB.out | apply below_alloc | apply pw_below_drewN | apply below_drew1 | refine below_set ?_ GE199.out | refine below_set ?_ GE204.out) | exact HB.out)) HG_lengths.out); rintro e w135 ⟨rfl, hb⟩; have n0_ := Aside0.mk (blk_below (g := gb199) (o := .cells #[.int .i64 t195, .int .i64 t196, .int .i64 t197] 24 (0, 0)) (by (with_reducible repeat (first | refine blk_drewN ?_ _ | refine blk_drew ?_ | refine blk_alloc ?_ _)); exact BK199.out) hb); have n1_ := Aside0.mk (blk_below (g := gb204) (o := .cells #[.int .i64 t200, .int .i64 t201, .int .i64 t202] 24 (0, 0)) (by (with_reducible repeat (first | refine blk_drewN ?_ _ | refine blk_drew ?_ | refine blk_alloc ?_ _)); exact BK204.out) hb); have n2_ := Aside0.mk (below_step (by repeat (first | (with_reducible first | exact HB.out | apply below_alloc | apply pw_below_drewN | apply below_drew1 | refine below_set ?_ GE199.out | refine below_set ?_ GE204.out) | exact HB.out)) hb); clear BK199; clear BK204; clear HB; have BK199 := n0_; have BK204 := n1_; have HB := n2_; clear n0_ n1_ n2_; (try clear hb); (try clear hb2); (try clear hk); (try clear hi)))
          go_ret
          exact ⟨by first | rfl | (simp [errW_none, errW_some] <;> rfl) | (simp [*, errW_none, errW_some] <;> rfl), by repeat (first | (with_reducible first | exact HB.out | apply below_alloc | apply pw_below_drewN | apply below_drew1 | refine below_set ?_ GE199.out | refine below_set ?_ GE204.out) | exact HB.out)⟩
         ·
          rw [if_neg c130] at H
          have c130b0 : decide (28 ≤ t197) = false := decide_eq_false c130
          clear c130
          obtain rfl := Option.some.inj H
          have hnb136 := NB204_199.out
          have hnc136 := NB199_204.out
          have hcz137_0 : wc.cell? ⟨gb204, 0, none⟩ = some (.int .i64 t200) := (blk_cell BK204.out 0).trans rfl
          have hcz137_1 : wc.cell? ⟨gb204, 1, none⟩ = some (.int .i64 t201) := (blk_cell BK204.out 1).trans rfl
          have hcz137_2 : wc.cell? ⟨gb204, 2, none⟩ = some (.int .i64 t202) := (blk_cell BK204.out 2).trans rfl
          have hfz137_0 := blk_frozen BK204.out 0
          have hfz137_1 := blk_frozen BK204.out 1
          have hfz137_2 := blk_frozen BK204.out 2
          have hcz138_0 : wc.cell? ⟨gb199, 0, none⟩ = some (.int .i64 t195) := (blk_cell BK199.out 0).trans rfl
          have hcz138_1 : wc.cell? ⟨gb199, 1, none⟩ = some (.int .i64 t196) := (blk_cell BK199.out 1).trans rfl
          have hcz138_2 : wc.cell? ⟨gb199, 2, none⟩ = some (.int .i64 t197) := (blk_cell BK199.out 2).trans rfl
          have hfz138_0 := blk_frozen BK199.out 0
          have hfz138_1 := blk_frozen BK199.out 1
          have hfz138_2 := blk_frozen BK199.out 2
          go_wp2
          go_ret
          exact ⟨by first | rfl | (simp [errW_none, errW_some] <;> rfl) | (simp [*, errW_none, errW_some] <;> rfl), by repeat (first | (with_reducible first | exact HB.out | apply below_alloc | apply pw_below_drewN | apply below_drew1 | refine below_set ?_ GE199.out | refine below_set ?_ GE204.out) | exact HB.out)⟩
        ·
         rw [if_neg c129] at H
         have c129b0 : (t201 == 1) = false := beq_eq_false_iff_ne.mpr c129
         have c129b1 : (t201 != 1) = true := bne_iff_ne.mpr c129
         obtain rfl := Option.some.inj H
         have hnb139 := NB204_199.out
         have hnc139 := NB199_204.out
         have hcz140_0 : wc.cell? ⟨gb204, 0, none⟩ = some (.int .i64 t200) := (blk_cell BK204.out 0).trans rfl
         have hcz140_1 : wc.cell? ⟨gb204, 1, none⟩ = some (.int .i64 t201) := (blk_cell BK204.out 1).trans rfl
         have hcz140_2 : wc.cell? ⟨gb204, 2, none⟩ = some (.int .i64 t202) := (blk_cell BK204.out 2).trans rfl
         have hfz140_0 := blk_frozen BK204.out 0
         have hfz140_1 := blk_frozen BK204.out 1
         have hfz140_2 := blk_frozen BK204.out 2
         have hcz141_0 : wc.cell? ⟨gb199, 0, none⟩ = some (.int .i64 t195) := (blk_cell BK199.out 0).trans rfl
         have hcz141_1 : wc.cell? ⟨gb199, 1, none⟩ = some (.int .i64 t196) := (blk_cell BK199.out 1).trans rfl
         have hcz141_2 : wc.cell? ⟨gb199, 2, none⟩ = some (.int .i64 t197) := (blk_cell BK199.out 2).trans rfl
         have hfz141_0 := blk_frozen BK199.out 0
         have hfz141_1 := blk_frozen BK199.out 1
         have hfz141_2 := blk_frozen BK199.out 2
         go_wp2
         go_ret
         exact ⟨by first | rfl | (simp [errW_none, errW_some] <;> rfl) | (simp [*, errW_none, errW_some] <;> rfl), by repeat (first | (with_reducible first | exact HB.out | apply below_alloc | apply pw_below_drewN | apply below_drew1 | refine below_set ?_ GE199.out | refine below_set ?_ GE204.out) | exact HB.out)⟩
       ·
        rw [if_neg c128] at H
        have c128b0 : (t196 == 12) = false := beq_eq_false_iff_ne.mpr c128
        have c128b1 : (t196 != 12) = true := bne_iff_ne.mpr c128
        obtain rfl := Option.some.inj H
        have hnb142 := NB204_199.out
        have hnc142 := NB199_204.out
        have hcz143_0 : wc.cell? ⟨gb204, 0, none⟩ = some (.int .i64 t200) := (blk_cell BK204.out 0).trans rfl
        have hcz143_1 : wc.cell? ⟨gb204, 1, none⟩ = some (.int .i64 t201) := (blk_cell BK204.out 1).trans rfl
        have hcz143_2 : wc.cell? ⟨gb204, 2, none⟩ = some (.int .i64 t202) := (blk_cell BK204.out 2).trans rfl
        have hfz143_0 := blk_frozen BK204.out 0
        have hfz143_1 := blk_frozen BK204.out 1
        have hfz143_2 := blk_frozen BK204.out 2
        have hcz144_0 : wc.cell? ⟨gb199, 0, none⟩ = some (.int .i64 t195) := (blk_cell BK199.out 0).trans rfl
        have hcz144_1 : wc.cell? ⟨gb199, 1, none⟩ = some (.int .i64 t196) := (blk_cell BK199.out 1).trans rfl
        have hcz144_2 : wc.cell? ⟨gb199, 2, none⟩ = some (.int .i64 t197) := (blk_cell BK199.out 2).trans rfl
        have hfz144_0 := blk_frozen BK199.out 0
        have hfz144_1 := blk_frozen BK199.out 1
        have hfz144_2 := blk_frozen BK199.out 2
        go_wp2
        go_ret
        exact ⟨by first | rfl | (simp [errW_none, errW_some] <;> rfl) | (simp [*, errW_none, errW_some] <;> rfl), by repeat (first | (with_reducible first | exact HB.out | apply below_alloc | apply pw_below_drewN | apply below_drew1 | refine below_set ?_ GE199.out | refine below_set ?_ GE204.out) | exact HB.out)⟩
      ·
       rw [if_neg c127] at H
       have c127b0 : (t200 == (wrap64 (t195 + 1))) = false := beq_eq_false_iff_ne.mpr c127
       have c127b1 : (t200 != (wrap64 (t195 + 1))) = true := bne_iff_ne.mpr c127
       obtain rfl := Option.some.inj H
       have hnb145 := NB204_199.out
       have hnc145 := NB199_204.out
       have hcz146_0 : wc.cell? ⟨gb204, 0, none⟩ = some (.int .i64 t200) := (blk_cell BK204.out 0).trans rfl
       have hcz146_1 : wc.cell? ⟨gb204, 1, none⟩ = some (.int .i64 t201) := (blk_cell BK204.out 1).trans rfl
       have hcz146_2 : wc.cell? ⟨gb204, 2, none⟩ = some (.int .i64 t202) := (blk_cell BK204.out 2).trans rfl
       have hfz146_0 := blk_frozen BK204.out 0
       have hfz146_1 := blk_frozen BK204.out 1
       have hfz146_2 := blk_frozen BK204.out 2
       have hcz147_0 : wc.cell? ⟨gb199, 0, none⟩ = some (.int .i64 t195) := (blk_cell BK199.out 0).trans rfl
       have hcz147_1 : wc.cell? ⟨gb199, 1, none⟩ = some (.int .i64 t196) := (blk_cell BK199.out 1).trans rfl
       have hcz147_2 : wc.cell? ⟨gb199, 2, none⟩ = some (.int .i64 t197) := (blk_cell BK199.out 2).trans rfl
       have hfz147_0 := blk_frozen BK199.out 0
       have hfz147_1 := blk_frozen BK199.out 1
       have hfz147_2 := blk_frozen BK199.out 2
       go_wp2
       go_ret
       exact ⟨by first | rfl | (simp [errW_none, errW_some] <;> rfl) | (simp [*, errW_none, errW_some] <;> rfl), by repeat (first | (with_reducible first | exact HB.out | apply below_alloc | apply pw_below_drewN | apply below_drew1 | refine below_set ?_ GE199.out | refine below_set ?_ GE204.out) | exact HB.out)⟩
     ·
      rw [if_neg c126] at H
      have c126b0 : (t202 == 1) = false := beq_eq_false_iff_ne.mpr c126
      have c126b1 : (t202 != 1) = true := bne_iff_ne.mpr c126
      obtain rfl := Option.some.inj H
      have hnb148 := NB204_199.out
      have hnc148 := NB199_204.out
      have hcz149_0 : wc.cell? ⟨gb204, 0, none⟩ = some (.int .i64 t200) := (blk_cell BK204.out 0).trans rfl
      have hcz149_1 : wc.cell? ⟨gb204, 1, none⟩ = some (.int .i64 t201) := (blk_cell BK204.out 1).trans rfl
      have hcz149_2 : wc.cell? ⟨gb204, 2, none⟩ = some (.int .i64 t202) := (blk_cell BK204.out 2).trans rfl
      have hfz149_0 := blk_frozen BK204.out 0
      have hfz149_1 := blk_frozen BK204.out 1
      have hfz149_2 := blk_frozen BK204.out 2
      have hcz150_0 : wc.cell? ⟨gb199, 0, none⟩ = some (.int .i64 t195) := (blk_cell BK199.out 0).trans rfl
      have hcz150_1 : wc.cell? ⟨gb199, 1, none⟩ = some (.int .i64 t196) := (blk_cell BK199.out 1).trans rfl
      have hcz150_2 : wc.cell? ⟨gb199, 2, none⟩ = some (.int .i64 t197) := (blk_cell BK199.out 2).trans rfl
      have hfz150_0 := blk_frozen BK199.out 0
      have hfz150_1 := blk_frozen BK199.out 1
      have hfz150_2 := blk_frozen BK199.out 2
      go_wp2
      go_ret
      exact ⟨by first | rfl | (simp [errW_none, errW_some] <;> rfl) | (simp [*, errW_none, errW_some] <;> rfl), by repeat (first | (with_reducible first | exact HB.out | apply below_alloc | apply pw_below_drewN | apply below_drew1 | refine below_set ?_ GE199.out | refine below_set ?_ GE204.out) | exact HB.out)⟩

/-- THE ONE PURE STATEMENT of customslaw04_CalendarNext: yours. -/
def customslaw04_CalendarNext.Pure : Prop := ∀ (a0 : Int), (Lit.int .i64 a0).wf = true → ∃ k, customslaw04_CalendarNext.f k a0 = some true
theorem customslaw04_CalendarNext.walk (P : customslaw04_CalendarNext.Pure) (a0 : Int) (w : World) (hG_lengths : GL_lengths w) (w0 : (Lit.int .i64 a0).wf = true) :
  Calls Tryd.prog 5 #[.int .i64 a0] w fun e w' => e = .returned (.bool true) ∧ Below w.heap.size w w' := by
 obtain ⟨k, h⟩ := P a0 w0
 refine (customslaw04_CalendarNext.calls k a0 true w hG_lengths h).mono ?_
 rintro e w' ⟨rfl, hd⟩
 exact ⟨rfl, hd⟩

end Go.Proofs.YtlmcejiebobfbaaDoor.G

