/-
  Functions of the program and of the references as plain Lean functions, each with a proof that the machine's call comes to what it answers. Conditions: what each contract states.
-/
import Derived.Test.YtlmcejiebobfbaaDoorQCorea1
import Derived.Test.YtlmcejiebobfbaaDoorQCorea2
import Derived.Test.YtlmcejiebobfbaaDoorQCorea3
namespace Go.Proofs.YtlmcejiebobfbaaDoor.G
open Go.RowKit Go.Proofs.YtlmcejiebobfbaaDoorW.PrintWords Go.Proofs.YtlmcejiebobfbaaDoorW.PrintLast Go.Proofs.YtlmcejiebobfbaaDoorW.PrintMore
attribute [local go_sem] max2_int min2_int max_two min_two max_three min_three max_four min_four   -- for this text's walks alone
set_option linter.unusedVariables false
set_option linter.unusedSimpArgs false

theorem eqA24 (d : Nat) (w : World) (x0 y0 : Int) (x1 y1 : Int) (x2 y2 : Int) :
    (Op.equalIn (d + 2) 24 (.agg #[.int .i64 x0, .int .i64 x1, .int .i64 x2]) (.agg #[.int .i64 y0, .int .i64 y1, .int .i64 y2])).run Tryd.prog w = .ok (x0 == y0 && (x1 == y1 && (x2 == y2))) w := by
  refine eqA_of Tryd.underlying24 (by kernel_rfl) ?_
  refine eqf_cons (by rfl) (by go_simp; rfl) (by go_simp; rfl) (by go_simp) ?_
  refine eqf_cons (by rfl) (by go_simp; rfl) (by go_simp; rfl) (by go_simp) ?_
  exact eqf_last (by rfl) (by go_simp; rfl) (by go_simp; rfl) (by go_simp)
end Go.Proofs.YtlmcejiebobfbaaDoor.G

namespace Go.Proofs.YtlmcejiebobfbaaDoor.G
open Go.RowKit Go.Proofs.YtlmcejiebobfbaaDoorW.PrintWords Go.Proofs.YtlmcejiebobfbaaDoorW.PrintLast Go.Proofs.YtlmcejiebobfbaaDoorW.PrintMore
attribute [local go_sem] max2_int min2_int max_two min_two max_three min_three max_four min_four   -- for this text's walks alone
set_option linter.unusedVariables false
set_option linter.unusedSimpArgs false

attribute [local go_sem high] eqA24
/-! ### customslaw04_CalendarNumbers: function 4 -/
mutual
def customslaw04_CalendarNumbers.j0 : Nat → Int → Int → Int → Option (Bool)
  | 0, _, _, _ => none
  | k + 1, x0, x1, x2 => (calendar_Number.f k x0 x1 x2).bind fun bt183 => ((customsref04_Number.f k x0 x1 x2).bind fun bt185 => (if bt183.1 = bt185.1 then (customslaw04_CalendarNumbers.j1 k bt183.1 bt183.2 (bt183.2 != bt185.2) x0 x1 x2) else (customslaw04_CalendarNumbers.j1 k bt183.1 bt183.2 true x0 x1 x2)))
def customslaw04_CalendarNumbers.j1 : Nat → Int → Int → Bool → Int → Int → Int → Option (Bool)
  | 0, _, _, _, _, _, _ => none
  | k + 1, x10, x11, x46, x183000, x183001, x183002 => if x46 = true then (some false) else ((calendar_Of.f k x10).bind fun bt187 => (if x11 = 0 then (if (bt187.1 == x183000 && (bt187.2.1 == x183001 && (bt187.2.2.1 == x183002))) = true then (if bt187.2.2.2 = 0 then ((customslaw04_awake.f k).bind fun t192 => (some t192)) else (some false)) else (some false)) else ((customslaw04_awake.f k).bind fun t193 => (some t193))))
end
def customslaw04_CalendarNumbers.f (k : Nat) (a0 : Int) (a1 : Int) (a2 : Int) (a3 : Bool) : Option (Bool) := if a3 = true then (customslaw04_CalendarNumbers.j0 k a0 a1 a2) else ((customsmade_Within.f a0 104).bind fun t179 => ((customsmade_Within.f a1 14).bind fun t180 => ((customsmade_Within.f a2 33).bind fun t181 => (customslaw04_CalendarNumbers.j0 k (wrap64 (1998 + t179)) t180 t181))))
theorem customslaw04_CalendarNumbers.mono_l : ∀ k, (∀ y0 y1 y2, LeO (customslaw04_CalendarNumbers.j0 k y0 y1 y2) (customslaw04_CalendarNumbers.j0 (k + 1) y0 y1 y2)) ∧ (∀ y0 y1 y2 y3 y4 y5, LeO (customslaw04_CalendarNumbers.j1 k y0 y1 y2 y3 y4 y5) (customslaw04_CalendarNumbers.j1 (k + 1) y0 y1 y2 y3 y4 y5))
  | 0 => ⟨fun _ _ _ r h => by simp [customslaw04_CalendarNumbers.j0] at h, fun _ _ _ _ _ _ r h => by simp [customslaw04_CalendarNumbers.j1] at h⟩
  | k + 1 => by
    obtain ⟨ih0, ih1⟩ := customslaw04_CalendarNumbers.mono_l k
    refine ⟨?_, ?_⟩
    · intro y0 y1 y2
      unfold customslaw04_CalendarNumbers.j0
      repeat' first
      | (with_reducible exact ih0 _ _ _)
      | (with_reducible exact ih1 _ _ _ _ _ _)
      | (with_reducible exact calendar_Number.mono _ _ _ _)
      | (with_reducible exact calendar_Of.mono _ _)
      | (with_reducible exact customslaw04_awake.mono _)
      | (with_reducible exact customsref04_Number.mono _ _ _ _)
      | (with_reducible exact LeO.refl _)
      | (with_reducible exact LeO.none _)
      | (with_reducible refine LeO.ite ?_ ?_)
      | (with_reducible refine LeO.bind ?_ (fun _ => ?_))
      | exact ih0 _ _ _
      | exact ih1 _ _ _ _ _ _
      | exact calendar_Number.mono _ _ _ _
      | exact calendar_Of.mono _ _
      | exact customslaw04_awake.mono _
      | exact customsref04_Number.mono _ _ _ _
      | exact LeO.none _
      | refine LeO.ite ?_ ?_
      | refine LeO.bind ?_ (fun _ => ?_)
    · intro y0 y1 y2 y3 y4 y5
      unfold customslaw04_CalendarNumbers.j1
      repeat' first
      | (with_reducible exact ih0 _ _ _)
      | (with_reducible exact ih1 _ _ _ _ _ _)
      | (with_reducible exact calendar_Number.mono _ _ _ _)
      | (with_reducible exact calendar_Of.mono _ _)
      | (with_reducible exact customslaw04_awake.mono _)
      | (with_reducible exact customsref04_Number.mono _ _ _ _)
      | (with_reducible exact LeO.refl _)
      | (with_reducible exact LeO.none _)
      | (with_reducible refine LeO.ite ?_ ?_)
      | (with_reducible refine LeO.bind ?_ (fun _ => ?_))
      | exact ih0 _ _ _
      | exact ih1 _ _ _ _ _ _
      | exact calendar_Number.mono _ _ _ _
      | exact calendar_Of.mono _ _
      | exact customslaw04_awake.mono _
      | exact customsref04_Number.mono _ _ _ _
      | exact LeO.none _
      | refine LeO.ite ?_ ?_
      | refine LeO.bind ?_ (fun _ => ?_)
theorem customslaw04_CalendarNumbers.mono : ∀ a0 a1 a2 a3 k, LeO (customslaw04_CalendarNumbers.f k a0 a1 a2 a3) (customslaw04_CalendarNumbers.f (k + 1) a0 a1 a2 a3) := by
  intro a0 a1 a2 a3 k
  obtain ⟨ih0, ih1⟩ := customslaw04_CalendarNumbers.mono_l k
  unfold customslaw04_CalendarNumbers.f
  repeat' first
      | (with_reducible exact ih0 _ _ _)
      | (with_reducible exact ih1 _ _ _ _ _ _)
      | (with_reducible exact calendar_Number.mono _ _ _ _)
      | (with_reducible exact calendar_Of.mono _ _)
      | (with_reducible exact customslaw04_awake.mono _)
      | (with_reducible exact customsref04_Number.mono _ _ _ _)
      | (with_reducible exact LeO.refl _)
      | (with_reducible exact LeO.none _)
      | (with_reducible refine LeO.ite ?_ ?_)
      | (with_reducible refine LeO.bind ?_ (fun _ => ?_))
      | exact ih0 _ _ _
      | exact ih1 _ _ _ _ _ _
      | exact calendar_Number.mono _ _ _ _
      | exact calendar_Of.mono _ _
      | exact customslaw04_awake.mono _
      | exact customsref04_Number.mono _ _ _ _
      | exact LeO.none _
      | refine LeO.ite ?_ ?_
      | refine LeO.bind ?_ (fun _ => ?_)
set_option maxHeartbeats 8000000 in
set_option maxRecDepth 100000 in
theorem customslaw04_CalendarNumbers.calls (k : Nat) (a0 : Int) (a1 : Int) (a2 : Int) (a3 : Bool) (r : Bool) (w : World) (hG_lengths : GL_lengths w) (h : customslaw04_CalendarNumbers.f k a0 a1 a2 a3 = some r) :
    Calls Tryd.prog 4 #[.int .i64 a0, .int .i64 a1, .int .i64 a2, .bool a3] w fun e w' => e = .returned (.bool r) ∧ Below w.heap.size w w' := by
  have hu24 := Tryd.underlying24
  have HG_lengths := Aside0.mk hG_lengths
  clear hG_lengths
  have HB := Aside0.mk (Below.refl w.heap.size w)
  have H : (if a3 = true then (customslaw04_CalendarNumbers.j0 k a0 a1 a2) else ((customsmade_Within.f a0 104).bind fun t179 => ((customsmade_Within.f a1 14).bind fun t180 => ((customsmade_Within.f a2 33).bind fun t181 => (customslaw04_CalendarNumbers.j0 k (wrap64 (1998 + t179)) t180 t181))))) = some r := h
  clear h
  have HC5 := Aside0.mk H
  clear H
  go_enter Tryd.func4, Tryd.ntmps4
  go_upto_if 17 with (fail)
  go_cut [0, 1, 2] (fun v0 v1 v2 wc => ∃ (kq : Nat) (x0_4 : Int) (x1_4 : Int) (x2_4 : Int), v0 = .int .i64 x0_4 ∧ v1 = .int .i64 x1_4 ∧ v2 = .int .i64 x2_4 ∧ Aside0 (customslaw04_CalendarNumbers.j0 kq x0_4 x1_4 x2_4 = some r) ∧ Aside0 (kq ≤ k) ∧ Aside0 (Below w.heap.size w wc))
  case first =>
    have H := HC5.out
    clear HC5
    by_cases c6 : a3 = true
    · subst c6
      have H1 : (customslaw04_CalendarNumbers.j0 k a0 a1 a2) = some r := by rw [if_pos rfl] at H; exact H
      clear H
      have H := H1
      clear H1
      have H' := Aside0.mk H
      clear H
      go_wp2
      go_meet
      case rel => exact ⟨_, (a0), (a1), (a2), (by first | rfl | (simp; done) | (simp [*]; done)), (by first | rfl | (simp; done) | (simp [*]; done)), (by first | rfl | (simp; done) | (simp [*]; done)), H', ⟨by first | omega | exact Nat.le_refl _⟩, ⟨by repeat (first | (with_reducible first | exact HB.out | apply below_alloc | apply pw_below_drewN | apply below_drew1) | exact HB.out)⟩⟩
    · replace c6 := Bool.eq_false_iff.mpr c6
      subst c6
      have H1 : ((customsmade_Within.f a0 104).bind fun t179 => ((customsmade_Within.f a1 14).bind fun t180 => ((customsmade_Within.f a2 33).bind fun t181 => (customslaw04_CalendarNumbers.j0 k (wrap64 (1998 + t179)) t180 t181)))) = some r := by rw [if_neg (show ¬ (false = true) by decide)] at H; exact H
      clear H
      have H := H1
      clear H1
      replace H := Option.bind_eq_some_iff.mp H
      obtain ⟨t179, A70, H⟩ := H
      replace H : ((customsmade_Within.f a1 14).bind fun t180 => ((customsmade_Within.f a2 33).bind fun t181 => (customslaw04_CalendarNumbers.j0 k (wrap64 (1998 + t179)) t180 t181))) = some r := H
      have A7 := Aside0.mk A70
      clear A70
      replace H := Option.bind_eq_some_iff.mp H
      obtain ⟨t180, A80, H⟩ := H
      replace H : ((customsmade_Within.f a2 33).bind fun t181 => (customslaw04_CalendarNumbers.j0 k (wrap64 (1998 + t179)) t180 t181)) = some r := H
      have A8 := Aside0.mk A80
      clear A80
      replace H := Option.bind_eq_some_iff.mp H
      obtain ⟨t181, A90, H⟩ := H
      replace H : (customslaw04_CalendarNumbers.j0 k (wrap64 (1998 + t179)) t180 t181) = some r := H
      have A9 := Aside0.mk A90
      clear A90
      have H' := Aside0.mk H
      clear H
      go_wp2_with (first | ((with_reducible refine gate_callee (f := 18) rfl ?_); refine goesL_ (some 19) rfl rfl Tryd.func18 (by kernel_rfl) rfl #[.int .i64 a0, .int .i64 104] rfl (by (try simp only [List.map_toArray, List.map_cons, List.map_nil]); first | done | rfl | (simp only [List.length_drop, List.length_take]; rfl)) ?_; (with_reducible refine (customsmade_Within.calls a0 104 t179 _ A7.out).mono ?_); rintro e w' ⟨rfl, ⟨nd, rfl⟩⟩; refine ⟨_, rfl, ?_⟩) | ((with_reducible refine gate_callee (f := 18) rfl ?_); refine goesL_ (some 22) rfl rfl Tryd.func18 (by kernel_rfl) rfl #[.int .i64 a1, .int .i64 14] rfl (by (try simp only [List.map_toArray, List.map_cons, List.map_nil]); first | done | rfl | (simp only [List.length_drop, List.length_take]; rfl)) ?_; (with_reducible refine (customsmade_Within.calls a1 14 t180 _ A8.out).mono ?_); rintro e w' ⟨rfl, ⟨nd, rfl⟩⟩; refine ⟨_, rfl, ?_⟩) | ((with_reducible refine gate_callee (f := 18) rfl ?_); refine goesL_ (some 24) rfl rfl Tryd.func18 (by kernel_rfl) rfl #[.int .i64 a2, .int .i64 33] rfl (by (try simp only [List.map_toArray, List.map_cons, List.map_nil]); first | done | rfl | (simp only [List.length_drop, List.length_take]; rfl)) ?_; (with_reducible refine (customsmade_Within.calls a2 33 t181 _ A9.out).mono ?_); rintro e w' ⟨rfl, ⟨nd, rfl⟩⟩; refine ⟨_, rfl, ?_⟩))
      go_meet
      case rel => exact ⟨_, (wrap64 (1998 + t179)), (t180), (t181), (by first | rfl | (simp; done) | (simp [*]; done)), (by first | rfl | (simp; done) | (simp [*]; done)), (by first | rfl | (simp; done) | (simp [*]; done)), H', ⟨by first | omega | exact Nat.le_refl _⟩, ⟨by repeat (first | (with_reducible first | exact HB.out | apply below_alloc | apply pw_below_drewN | apply below_drew1) | exact HB.out)⟩⟩
  case rest =>
    clear HC5
    try clear c1
    try clear p2
    try clear c4
    try clear c6
    try clear p6
    obtain ⟨kq, x0_4, x1_4, x2_4, rfl, rfl, rfl, HA, HJ4, HB⟩ := hcut
    cases kq with
    | zero => exact absurd HA.out (by simp [customslaw04_CalendarNumbers.j0])
    | succ kj4 =>
      have H := HA.out
      clear HA
      simp only [customslaw04_CalendarNumbers.j0] at H
      replace H := Option.bind_eq_some_iff.mp H
      obtain ⟨⟨t183, t184⟩, A100, H⟩ := H
      replace H : ((customsref04_Number.f kj4 x0_4 x1_4 x2_4).bind fun bt185 => (if t183 = bt185.1 then (customslaw04_CalendarNumbers.j1 kj4 t183 t184 (t184 != bt185.2) x0_4 x1_4 x2_4) else (customslaw04_CalendarNumbers.j1 kj4 t183 t184 true x0_4 x1_4 x2_4))) = some r := H
      have A10 := Aside0.mk A100
      clear A100
      replace H := Option.bind_eq_some_iff.mp H
      obtain ⟨⟨t185, t186⟩, A110, H⟩ := H
      replace H : (if t183 = t185 then (customslaw04_CalendarNumbers.j1 kj4 t183 t184 (t184 != t186) x0_4 x1_4 x2_4) else (customslaw04_CalendarNumbers.j1 kj4 t183 t184 true x0_4 x1_4 x2_4)) = some r := H
      have A11 := Aside0.mk A110
      clear A110
      have HC12 := Aside0.mk H
      clear H
      go_upto_region 6 with (first | ((with_reducible refine gate_dst (N := 9) rfl ?_); refine box_event ?hg (N := 9) ?hd (cs := #[.int .i64 0, .int .i64 0, .int .i64 0]) (t := 24) ?hr ?_; (case hd => rfl); (case hg => rfl); (case hr => first | (go_simp; done) | (go_simp; rfl)); intro gb182 hg w13 hbox hb; have n0_ := Aside0.mk (below_step (by repeat (first | (with_reducible first | exact HB.out | apply below_alloc | apply pw_below_drewN | apply below_drew1) | exact HB.out)) hb); have n1_ := Aside0.mk (hbox); have n2_ := Aside0.mk ((by rw [hg]; exact (below_size (by repeat (first | (with_reducible first | exact HB.out | apply below_alloc | apply pw_below_drewN | apply below_drew1) | exact HB.out))) : w.heap.size ≤ gb182)); have n3_ := Aside0.mk ((by rw [hg]; exact (below_size (by repeat (first | (with_reducible first | exact HB.out | apply below_alloc | apply pw_below_drewN | apply below_drew1) | exact HB.out))) : w.heap.size ≤ gb182)); clear HB; have HB := n0_; have BK182 := n1_; have GW182 := n2_; have GE182 := n3_; clear n0_ n1_ n2_ n3_; clear hb hbox hg; have hcz14_0 : w13.cell? ⟨gb182, 0, none⟩ = some (.int .i64 0) := (blk_cell BK182.out 0).trans rfl; have hcz14_1 : w13.cell? ⟨gb182, 1, none⟩ = some (.int .i64 0) := (blk_cell BK182.out 1).trans rfl; have hcz14_2 : w13.cell? ⟨gb182, 2, none⟩ = some (.int .i64 0) := (blk_cell BK182.out 2).trans rfl; have hfz14_0 := blk_frozen BK182.out 0; have hfz14_1 := blk_frozen BK182.out 1; have hfz14_2 := blk_frozen BK182.out 2) | ((with_reducible refine gate_callee (f := 16) rfl ?_); refine goesL_ (some 31) rfl rfl Tryd.func16 (by kernel_rfl) rfl #[.agg #[.int .i64 x0_4, .int .i64 x1_4, .int .i64 x2_4]] rfl (by (try simp only [List.map_toArray, List.map_cons, List.map_nil]); first | done | rfl | (simp only [List.length_drop, List.length_take]; rfl)) ?_; (with_reducible refine (calendar_Number.calls kj4 x0_4 x1_4 x2_4 t183 t184 _ ?side1 A10.out).mono ?_); (case side1 => exact GL_lengths.of_below (by repeat (first | (with_reducible first | exact HB.out | apply below_alloc | apply pw_below_drewN | apply below_drew1 | refine below_set ?_ GE182.out) | exact HB.out)) HG_lengths.out); rintro e w15 ⟨rfl, hb⟩; refine ⟨_, rfl, ?_⟩; have n0_ := Aside0.mk (blk_below (g := gb182) (o := .cells #[.int .i64 x0_4, .int .i64 x1_4, .int .i64 x2_4] 24 (0, 0)) (by (with_reducible repeat (first | refine blk_drewN ?_ _ | refine blk_drew ?_ | refine blk_alloc ?_ _)); refine blk_put (cs := #[.int .i64 x0_4, .int .i64 x1_4, .int .i64 0]) ?_ 2 _ rfl; (with_reducible repeat (first | refine blk_drewN ?_ _ | refine blk_drew ?_ | refine blk_alloc ?_ _)); refine blk_put (cs := #[.int .i64 x0_4, .int .i64 0, .int .i64 0]) ?_ 1 _ rfl; (with_reducible repeat (first | refine blk_drewN ?_ _ | refine blk_drew ?_ | refine blk_alloc ?_ _)); refine blk_put (cs := #[.int .i64 0, .int .i64 0, .int .i64 0]) ?_ 0 _ rfl; (with_reducible repeat (first | refine blk_drewN ?_ _ | refine blk_drew ?_ | refine blk_alloc ?_ _)); exact BK182.out) hb); have n1_ := Aside0.mk (below_step (by repeat (first | (with_reducible first | exact HB.out | apply below_alloc | apply pw_below_drewN | apply below_drew1 | refine below_set ?_ GE182.out) | exact HB.out)) hb); clear BK182; clear HB; have BK182 := n0_; have HB := n1_; clear n0_ n1_; (try clear hb); (try clear hb2); (try clear hk); (try clear hi); have hcz16_0 : w15.cell? ⟨gb182, 0, none⟩ = some (.int .i64 x0_4) := (blk_cell BK182.out 0).trans rfl; have hcz16_1 : w15.cell? ⟨gb182, 1, none⟩ = some (.int .i64 x1_4) := (blk_cell BK182.out 1).trans rfl; have hcz16_2 : w15.cell? ⟨gb182, 2, none⟩ = some (.int .i64 x2_4) := (blk_cell BK182.out 2).trans rfl; have hfz16_0 := blk_frozen BK182.out 0; have hfz16_1 := blk_frozen BK182.out 1; have hfz16_2 := blk_frozen BK182.out 2) | ((with_reducible refine gate_callee (f := 19) rfl ?_); refine goesL_ (some 36) rfl rfl Tryd.func19 (by kernel_rfl) rfl #[.agg #[.int .i64 x0_4, .int .i64 x1_4, .int .i64 x2_4]] rfl (by (try simp only [List.map_toArray, List.map_cons, List.map_nil]); first | done | rfl | (simp only [List.length_drop, List.length_take]; rfl)) ?_; (with_reducible refine (customsref04_Number.calls kj4 x0_4 x1_4 x2_4 t185 t186 _ A11.out).mono ?_); rintro e w17 ⟨rfl, hb⟩; refine ⟨_, rfl, ?_⟩; have n0_ := Aside0.mk (blk_below (g := gb182) (o := .cells #[.int .i64 x0_4, .int .i64 x1_4, .int .i64 x2_4] 24 (0, 0)) (by (with_reducible repeat (first | refine blk_drewN ?_ _ | refine blk_drew ?_ | refine blk_alloc ?_ _)); exact BK182.out) hb); have n1_ := Aside0.mk (below_step (by repeat (first | (with_reducible first | exact HB.out | apply below_alloc | apply pw_below_drewN | apply below_drew1 | refine below_set ?_ GE182.out) | exact HB.out)) hb); clear BK182; clear HB; have BK182 := n0_; have HB := n1_; clear n0_ n1_; (try clear hb); (try clear hb2); (try clear hk); (try clear hi)))
      (try simp only [Act.put, List.setIfInBounds_toArray, List.set_cons_zero, List.set_cons_succ])
      go_cut [46] (fun v46 wc => ∃ (kq : Nat) (x46_11 : Bool), v46 = .bool x46_11 ∧ Aside0 (customslaw04_CalendarNumbers.j1 kq t183 t184 x46_11 x0_4 x1_4 x2_4 = some r) ∧ Aside0 (kq ≤ kj4) ∧ Aside0 (wc.heap[gb182]? = some (.cells #[.int .i64 x0_4, .int .i64 x1_4, .int .i64 x2_4] 24 (0, 0))) ∧ Aside0 (Below w.heap.size w wc))
      case first =>
        have H := HC12.out
        clear HC12
        by_cases c18 : t183 = t185
        · rw [if_pos c18] at H
          have c18b0 : (t183 == t185) = true := beq_iff_eq.mpr c18
          have c18b1 : (t183 != t185) = false := bne_eq_false_iff_eq.mpr c18
          clear c18
          (first | rw [c18b0] | (simp only [i64_w, i32_w]; rw [c18b0]) | skip)
          have H' := Aside0.mk H
          clear H
          go_wp2
          go_meet
          case rel => exact ⟨_, ((t184 != t186)), (by first | rfl | (simp; done) | (simp [*]; done)), H', ⟨by have := HJ4.out; first | omega | exact Nat.le_refl _⟩, ⟨by (with_reducible repeat (first | refine blk_drewN ?_ _ | refine blk_drew ?_ | refine blk_alloc ?_ _)); exact BK182.out⟩, ⟨by repeat (first | (with_reducible first | exact HB.out | apply below_alloc | apply pw_below_drewN | apply below_drew1 | refine below_set ?_ GE182.out) | exact HB.out)⟩⟩
        · rw [if_neg c18] at H
          have c18b0 : (t183 == t185) = false := beq_eq_false_iff_ne.mpr c18
          have c18b1 : (t183 != t185) = true := bne_iff_ne.mpr c18
          (first | rw [c18b0] | (simp only [i64_w, i32_w]; rw [c18b0]) | skip)
          have H' := Aside0.mk H
          clear H
          go_wp2
          go_meet
          case rel => exact ⟨_, (true), (by first | rfl | (simp; done) | (simp [*]; done)), H', ⟨by have := HJ4.out; first | omega | exact Nat.le_refl _⟩, ⟨by (with_reducible repeat (first | refine blk_drewN ?_ _ | refine blk_drew ?_ | refine blk_alloc ?_ _)); exact BK182.out⟩, ⟨by repeat (first | (with_reducible first | exact HB.out | apply below_alloc | apply pw_below_drewN | apply below_drew1 | refine below_set ?_ GE182.out) | exact HB.out)⟩⟩
      case rest =>
        clear HC12
        try clear c1
        try clear p2
        try clear c4
        try clear c6
        try clear p6
        try clear c16
        try clear c18
        try clear c18b0
        try clear c18b1
        try clear hcz14_0
        try clear hcz14_1
        try clear hcz14_2
        try clear hcz16_0
        try clear hcz16_1
        try clear hcz16_2
        try clear hfz14_0
        try clear hfz14_1
        try clear hfz14_2
        try clear hfz16_0
        try clear hfz16_1
        try clear hfz16_2
        try clear p2
        try clear p6
        obtain ⟨kq, x46_11, rfl, HA, HJ11, BK182, HB⟩ := hcut
        cases kq with
        | zero => exact absurd HA.out (by simp [customslaw04_CalendarNumbers.j1])
        | succ kj11 =>
          have H := HA.out
          clear HA
          simp only [customslaw04_CalendarNumbers.j1] at H
          by_cases c19 : x46_11 = true
          · subst c19
            have H1 : (some false) = some r := by rw [if_pos rfl] at H; exact H
            clear H
            have H := H1
            clear H1
            obtain rfl := Option.some.inj H
            go_wp2
            go_ret
            exact ⟨by first | rfl | (simp [errW_none, errW_some] <;> rfl) | (simp [*, errW_none, errW_some] <;> rfl), by repeat (first | (with_reducible first | exact HB.out | apply below_alloc | apply pw_below_drewN | apply below_drew1 | refine below_set ?_ GE182.out) | exact HB.out)⟩
          · replace c19 := Bool.eq_false_iff.mpr c19
            subst c19
            have H1 : ((calendar_Of.f kj11 t183).bind fun bt187 => (if t184 = 0 then (if (bt187.1 == x0_4 && (bt187.2.1 == x1_4 && (bt187.2.2.1 == x2_4))) = true then (if bt187.2.2.2 = 0 then ((customslaw04_awake.f kj11).bind fun t192 => (some t192)) else (some false)) else (some false)) else ((customslaw04_awake.f kj11).bind fun t193 => (some t193)))) = some r := by rw [if_neg (show ¬ (false = true) by decide)] at H; exact H
            clear H
            have H := H1
            clear H1
            replace H := Option.bind_eq_some_iff.mp H
            obtain ⟨⟨t187, t188, t189, t190⟩, A200, H⟩ := H
            replace H : (if t184 = 0 then (if (t187 == x0_4 && (t188 == x1_4 && (t189 == x2_4))) = true then (if t190 = 0 then ((customslaw04_awake.f kj11).bind fun t192 => (some t192)) else (some false)) else (some false)) else ((customslaw04_awake.f kj11).bind fun t193 => (some t193))) = some r := H
            have A20 := Aside0.mk A200
            clear A200
            by_cases c21 : t184 = 0
            · rw [if_pos c21] at H
              have c21b0 : (t184 == 0) = true := beq_iff_eq.mpr c21
              have c21b1 : (t184 != 0) = false := bne_eq_false_iff_eq.mpr c21
              clear c21
              by_cases c22 : (t187 == x0_4 && (t188 == x1_4 && (t189 == x2_4))) = true
              · rw [if_pos c22] at H
                have c22b0 : (t187 == x0_4 && (t188 == x1_4 && (t189 == x2_4))) = true := c22
                (try (have c22b1 : decide (t187 = x0_4 && (t188 == x1_4 && (t189 == x2_4))) = true := by simpa using c22))
                (try (have c22b2 : (t187 == x0_4 && (t188 == x1_4 && (t189 == x2_4))) = true := by simpa using c22))
                clear c22
                by_cases c23 : t190 = 0
                · rw [if_pos c23] at H
                  have c23b0 : (t190 == 0) = true := beq_iff_eq.mpr c23
                  have c23b1 : (t190 != 0) = false := bne_eq_false_iff_eq.mpr c23
                  clear c23
                  replace H := Option.bind_eq_some_iff.mp H
                  obtain ⟨t192, A240, H⟩ := H
                  replace H : (some t192) = some r := H
                  have A24 := Aside0.mk A240
                  clear A240
                  obtain rfl := Option.some.inj H
                  go_wp2_with (first | ((with_reducible refine gate_callee (f := 12) rfl ?_); refine goesL_ (some 49) rfl rfl Tryd.func12 (by kernel_rfl) rfl #[.int .i64 t183] rfl (by (try simp only [List.map_toArray, List.map_cons, List.map_nil]); first | done | rfl | (simp only [List.length_drop, List.length_take]; rfl)) ?_; (with_reducible refine (calendar_Of.calls kj11 t183 t187 t188 t189 t190 _ ?side1 A20.out).mono ?_); (case side1 => exact GL_lengths.of_below (by repeat (first | (with_reducible first | exact HB.out | apply below_alloc | apply pw_below_drewN | apply below_drew1 | refine below_set ?_ GE182.out) | exact HB.out)) HG_lengths.out); rintro e w25 ⟨rfl, hb⟩; refine ⟨_, rfl, ?_⟩; have n0_ := Aside0.mk (blk_below (g := gb182) (o := .cells #[.int .i64 x0_4, .int .i64 x1_4, .int .i64 x2_4] 24 (0, 0)) (by (with_reducible repeat (first | refine blk_drewN ?_ _ | refine blk_drew ?_ | refine blk_alloc ?_ _)); exact BK182.out) hb); have n1_ := Aside0.mk (below_step (by repeat (first | (with_reducible first | exact HB.out | apply below_alloc | apply pw_below_drewN | apply below_drew1 | refine below_set ?_ GE182.out) | exact HB.out)) hb); clear BK182; clear HB; have BK182 := n0_; have HB := n1_; clear n0_ n1_; (try clear hb); (try clear hb2); (try clear hk); (try clear hi)) | ((with_reducible refine gate_dst (N := 14) rfl ?_); refine box_event ?hg (N := 14) ?hd (cs := #[.int .i64 0, .int .i64 0, .int .i64 0]) (t := 24) ?hr ?_; (case hd => rfl); (case hg => rfl); (case hr => first | (go_simp; done) | (go_simp; rfl)); intro gb191 hg w26 hbox hb; have n0_ := Aside0.mk (blk_below (g := gb182) (o := .cells #[.int .i64 x0_4, .int .i64 x1_4, .int .i64 x2_4] 24 (0, 0)) (by (with_reducible repeat (first | refine blk_drewN ?_ _ | refine blk_drew ?_ | refine blk_alloc ?_ _)); exact BK182.out) hb); have n1_ := Aside0.mk (below_step (by repeat (first | (with_reducible first | exact HB.out | apply below_alloc | apply pw_below_drewN | apply below_drew1 | refine below_set ?_ GE182.out) | exact HB.out)) hb); have n2_ := Aside0.mk (hbox); have n3_ := Aside0.mk ((by rw [hg]; exact (below_size (by repeat (first | (with_reducible first | exact HB.out | apply below_alloc | apply pw_below_drewN | apply below_drew1 | refine below_set ?_ GE182.out) | exact HB.out))) : w.heap.size ≤ gb191)); have n4_ := Aside0.mk ((by rw [hg]; exact (below_size (by repeat (first | (with_reducible first | exact HB.out | apply below_alloc | apply pw_below_drewN | apply below_drew1 | refine below_set ?_ GE182.out) | exact HB.out))) : w.heap.size ≤ gb191)); have n5_ := Aside0.mk ((by rw [hg]; exact Nat.ne_of_lt (blk_lt (g := gb182) (o := .cells #[.int .i64 x0_4, .int .i64 x1_4, .int .i64 x2_4] 24 (0, 0)) (by (with_reducible repeat (first | refine blk_drewN ?_ _ | refine blk_drew ?_ | refine blk_alloc ?_ _)); exact BK182.out)) : gb182 ≠ gb191)); have n6_ := Aside0.mk ((by rw [hg]; exact Nat.ne_of_gt (blk_lt (g := gb182) (o := .cells #[.int .i64 x0_4, .int .i64 x1_4, .int .i64 x2_4] 24 (0, 0)) (by (with_reducible repeat (first | refine blk_drewN ?_ _ | refine blk_drew ?_ | refine blk_alloc ?_ _)); exact BK182.out)) : gb191 ≠ gb182)); clear BK182; clear HB; have BK182 := n0_; have HB := n1_; have BK191 := n2_; have GW191 := n3_; have GE191 := n4_; have NB182_191 := n5_; have NB191_182 := n6_; clear n0_ n1_ n2_ n3_ n4_ n5_ n6_; clear hb hbox hg; have hnb27 := NB191_182.out; have hnc27 := NB182_191.out; have hcz28_0 : w26.cell? ⟨gb191, 0, none⟩ = some (.int .i64 0) := (blk_cell BK191.out 0).trans rfl; have hcz28_1 : w26.cell? ⟨gb191, 1, none⟩ = some (.int .i64 0) := (blk_cell BK191.out 1).trans rfl; have hcz28_2 : w26.cell? ⟨gb191, 2, none⟩ = some (.int .i64 0) := (blk_cell BK191.out 2).trans rfl; have hfz28_0 := blk_frozen BK191.out 0; have hfz28_1 := blk_frozen BK191.out 1; have hfz28_2 := blk_frozen BK191.out 2; have hcz29_0 : w26.cell? ⟨gb182, 0, none⟩ = some (.int .i64 x0_4) := (blk_cell BK182.out 0).trans rfl; have hcz29_1 : w26.cell? ⟨gb182, 1, none⟩ = some (.int .i64 x1_4) := (blk_cell BK182.out 1).trans rfl; have hcz29_2 : w26.cell? ⟨gb182, 2, none⟩ = some (.int .i64 x2_4) := (blk_cell BK182.out 2).trans rfl; have hfz29_0 := blk_frozen BK182.out 0; have hfz29_1 := blk_frozen BK182.out 1; have hfz29_2 := blk_frozen BK182.out 2) | (go_at_call 17; (with_reducible refine (customslaw04_awake.calls kj11  t192 _ ?side1 A24.out).mono ?_); (case side1 => exact GL_lengths.of_below (by repeat (first | (with_reducible first | exact HB.out | apply below_alloc | apply pw_below_drewN | apply below_drew1 | refine below_set ?_ GE182.out | refine below_set ?_ GE191.out) | exact HB.out)) HG_lengths.out); rintro e w30 ⟨rfl, hb⟩; have n0_ := Aside0.mk (blk_below (g := gb182) (o := .cells #[.int .i64 x0_4, .int .i64 x1_4, .int .i64 x2_4] 24 (0, 0)) (by (with_reducible repeat (first | refine blk_drewN ?_ _ | refine blk_drew ?_ | refine blk_alloc ?_ _)); refine blk_far ?_ NB182_191.out _; (with_reducible repeat (first | refine blk_drewN ?_ _ | refine blk_drew ?_ | refine blk_alloc ?_ _)); refine blk_far ?_ NB182_191.out _; (with_reducible repeat (first | refine blk_drewN ?_ _ | refine blk_drew ?_ | refine blk_alloc ?_ _)); refine blk_far ?_ NB182_191.out _; (with_reducible repeat (first | refine blk_drewN ?_ _ | refine blk_drew ?_ | refine blk_alloc ?_ _)); exact BK182.out) hb); have n1_ := Aside0.mk (blk_below (g := gb191) (o := .cells #[.int .i64 t187, .int .i64 t188, .int .i64 t189] 24 (0, 0)) (by (with_reducible repeat (first | refine blk_drewN ?_ _ | refine blk_drew ?_ | refine blk_alloc ?_ _)); refine blk_put (cs := #[.int .i64 t187, .int .i64 t188, .int .i64 0]) ?_ 2 _ rfl; (with_reducible repeat (first | refine blk_drewN ?_ _ | refine blk_drew ?_ | refine blk_alloc ?_ _)); refine blk_put (cs := #[.int .i64 t187, .int .i64 0, .int .i64 0]) ?_ 1 _ rfl; (with_reducible repeat (first | refine blk_drewN ?_ _ | refine blk_drew ?_ | refine blk_alloc ?_ _)); refine blk_put (cs := #[.int .i64 0, .int .i64 0, .int .i64 0]) ?_ 0 _ rfl; (with_reducible repeat (first | refine blk_drewN ?_ _ | refine blk_drew ?_ | refine blk_alloc ?_ _)); exact BK191.out) hb); have n2_ := Aside0.mk (below_step (by repeat (first | (with_reducible first | exact HB.out | apply below_alloc | apply pw_below_drewN | apply below_drew1 | refine below_set ?_ GE182.out | refine below_set ?_ GE191.out) | exact HB.out)) hb); clear BK182; clear BK191; clear HB; have BK182 := n0_; have BK191 := n1_; have HB := n2_; clear n0_ n1_ n2_; (try clear hb); (try clear hb2); (try clear hk); (try clear hi)))
                  go_ret
                  exact ⟨by first | rfl | (simp [errW_none, errW_some] <;> rfl) | (simp [*, errW_none, errW_some] <;> rfl), by repeat (first | (with_reducible first | exact HB.out | apply below_alloc | apply pw_below_drewN | apply below_drew1 | refine below_set ?_ GE182.out | refine below_set ?_ GE191.out) | exact HB.out)⟩
                · rw [if_neg c23] at H
                  have c23b0 : (t190 == 0) = false := beq_eq_false_iff_ne.mpr c23
                  have c23b1 : (t190 != 0) = true := bne_iff_ne.mpr c23
                  obtain rfl := Option.some.inj H
                  go_wp2_with (first | ((with_reducible refine gate_callee (f := 12) rfl ?_); refine goesL_ (some 49) rfl rfl Tryd.func12 (by kernel_rfl) rfl #[.int .i64 t183] rfl (by (try simp only [List.map_toArray, List.map_cons, List.map_nil]); first | done | rfl | (simp only [List.length_drop, List.length_take]; rfl)) ?_; (with_reducible refine (calendar_Of.calls kj11 t183 t187 t188 t189 t190 _ ?side1 A20.out).mono ?_); (case side1 => exact GL_lengths.of_below (by repeat (first | (with_reducible first | exact HB.out | apply below_alloc | apply pw_below_drewN | apply below_drew1 | refine below_set ?_ GE182.out) | exact HB.out)) HG_lengths.out); rintro e w31 ⟨rfl, hb⟩; refine ⟨_, rfl, ?_⟩; have n0_ := Aside0.mk (blk_below (g := gb182) (o := .cells #[.int .i64 x0_4, .int .i64 x1_4, .int .i64 x2_4] 24 (0, 0)) (by (with_reducible repeat (first | refine blk_drewN ?_ _ | refine blk_drew ?_ | refine blk_alloc ?_ _)); exact BK182.out) hb); have n1_ := Aside0.mk (below_step (by repeat (first | (with_reducible first | exact HB.out | apply below_alloc | apply pw_below_drewN | apply below_drew1 | refine below_set ?_ GE182.out) | exact HB.out)) hb); clear BK182; clear HB; have BK182 := n0_; have HB := n1_; clear n0_ n1_; (try clear hb); (try clear hb2); (try clear hk); (try clear hi)) | ((with_reducible refine gate_dst (N := 14) rfl ?_); refine box_event ?hg (N := 14) ?hd (cs := #[.int .i64 0, .int .i64 0, .int .i64 0]) (t := 24) ?hr ?_; (case hd => rfl); (case hg => rfl); (case hr => first | (go_simp; done) | (go_simp; rfl)); intro gb191 hg w32 hbox hb; have n0_ := Aside0.mk (blk_below (g := gb182) (o := .cells #[.int .i64 x0_4, .int .i64 x1_4, .int .i64 x2_4] 24 (0, 0)) (by (with_reducible repeat (first | refine blk_drewN ?_ _ | refine blk_drew ?_ | refine blk_alloc ?_ _)); exact BK182.out) hb); have n1_ := Aside0.mk (below_step (by repeat (first | (with_reducible first | exact HB.out | apply below_alloc | apply pw_below_drewN | apply below_drew1 | refine below_set ?_ GE182.out) | exact HB.out)) hb); have n2_ := Aside0.mk (hbox); have n3_ := Aside0.mk ((by rw [hg]; exact (below_size (by repeat (first | (with_reducible first | exact HB.out | apply below_alloc | apply pw_below_drewN | apply below_drew1 | refine below_set ?_ GE182.out) | exact HB.out))) : w.heap.size ≤ gb191)); have n4_ := Aside0.mk ((by rw [hg]; exact (below_size (by repeat (first | (with_reducible first | exact HB.out | apply below_alloc | apply pw_below_drewN | apply below_drew1 | refine below_set ?_ GE182.out) | exact HB.out))) : w.heap.size ≤ gb191)); have n5_ := Aside0.mk ((by rw [hg]; exact Nat.ne_of_lt (blk_lt (g := gb182) (o := .cells #[.int .i64 x0_4, .int .i64 x1_4, .int .i64 x2_4] 24 (0, 0)) (by (with_reducible repeat (first | refine blk_drewN ?_ _ | refine blk_drew ?_ | refine blk_alloc ?_ _)); exact BK182.out)) : gb182 ≠ gb191)); have n6_ := Aside0.mk ((by rw [hg]; exact Nat.ne_of_gt (blk_lt (g := gb182) (o := .cells #[.int .i64 x0_4, .int .i64 x1_4, .int .i64 x2_4] 24 (0, 0)) (by (with_reducible repeat (first | refine blk_drewN ?_ _ | refine blk_drew ?_ | refine blk_alloc ?_ _)); exact BK182.out)) : gb191 ≠ gb182)); clear BK182; clear HB; have BK182 := n0_; have HB := n1_; have BK191 := n2_; have GW191 := n3_; have GE191 := n4_; have NB182_191 := n5_; have NB191_182 := n6_; clear n0_ n1_ n2_ n3_ n4_ n5_ n6_; clear hb hbox hg; have hnb33 := NB191_182.out; have hnc33 := NB182_191.out; have hcz34_0 : w32.cell? ⟨gb191, 0, none⟩ = some (.int .i64 0) := (blk_cell BK191.out 0).trans rfl; have hcz34_1 : w32.cell? ⟨gb191, 1, none⟩ = some (.int .i64 0) := (blk_cell BK191.out 1).trans rfl; have hcz34_2 : w32.cell? ⟨gb191, 2, none⟩ = some (.int .i64 0) := (blk_cell BK191.out 2).trans rfl; have hfz34_0 := blk_frozen BK191.out 0; have hfz34_1 := blk_frozen BK191.out 1; have hfz34_2 := blk_frozen BK191.out 2; have hcz35_0 : w32.cell? ⟨gb182, 0, none⟩ = some (.int .i64 x0_4) := (blk_cell BK182.out 0).trans rfl; have hcz35_1 : w32.cell? ⟨gb182, 1, none⟩ = some (.int .i64 x1_4) := (blk_cell BK182.out 1).trans rfl; have hcz35_2 : w32.cell? ⟨gb182, 2, none⟩ = some (.int .i64 x2_4) := (blk_cell BK182.out 2).trans rfl; have hfz35_0 := blk_frozen BK182.out 0; have hfz35_1 := blk_frozen BK182.out 1; have hfz35_2 := blk_frozen BK182.out 2))
                  go_ret
                  exact ⟨by first | rfl | (simp [errW_none, errW_some] <;> rfl) | (simp [*, errW_none, errW_some] <;> rfl), by repeat (first | (with_reducible first | exact HB.out | apply below_alloc | apply pw_below_drewN | apply below_drew1 | refine below_set ?_ GE182.out | refine below_set ?_ GE191.out) | exact HB.out)⟩
              · rw [if_neg c22] at H
                have c22b0 : (t187 == x0_4 && (t188 == x1_4 && (t189 == x2_4))) = false := by simpa using c22
                (try (have c22b1 : decide (t187 = x0_4 && (t188 == x1_4 && (t189 == x2_4))) = false := by simpa using c22))
                (try (have c22b2 : (t187 == x0_4 && (t188 == x1_4 && (t189 == x2_4))) = false := by simpa using c22))
                (try (have c22b3 : ¬ (t187 = x0_4 && (t188 == x1_4 && (t189 == x2_4))) := by simpa using c22))
                clear c22
                obtain rfl := Option.some.inj H
                go_wp2_with (first | ((with_reducible refine gate_callee (f := 12) rfl ?_); refine goesL_ (some 49) rfl rfl Tryd.func12 (by kernel_rfl) rfl #[.int .i64 t183] rfl (by (try simp only [List.map_toArray, List.map_cons, List.map_nil]); first | done | rfl | (simp only [List.length_drop, List.length_take]; rfl)) ?_; (with_reducible refine (calendar_Of.calls kj11 t183 t187 t188 t189 t190 _ ?side1 A20.out).mono ?_); (case side1 => exact GL_lengths.of_below (by repeat (first | (with_reducible first | exact HB.out | apply below_alloc | apply pw_below_drewN | apply below_drew1 | refine below_set ?_ GE182.out) | exact HB.out)) HG_lengths.out); rintro e w36 ⟨rfl, hb⟩; refine ⟨_, rfl, ?_⟩; have n0_ := Aside0.mk (blk_below (g := gb182) (o := .cells #[.int .i64 x0_4, .int .i64 x1_4, .int .i64 x2_4] 24 (0, 0)) (by (with_reducible repeat (first | refine blk_drewN ?_ _ | refine blk_drew ?_ | refine blk_alloc ?_ _)); exact BK182.out) hb); have n1_ := Aside0.mk (below_step (by repeat (first | (with_reducible first | exact HB.out | apply below_alloc | apply pw_below_drewN | apply below_drew1 | refine below_set ?_ GE182.out) | exact HB.out)) hb); clear BK182; clear HB; have BK182 := n0_; have HB := n1_; clear n0_ n1_; (try clear hb); (try clear hb2); (try clear hk); (try clear hi)) | ((with_reducible refine gate_dst (N := 14) rfl ?_); refine box_event ?hg (N := 14) ?hd (cs := #[.int .i64 0, .int .i64 0, .int .i64 0]) (t := 24) ?hr ?_; (case hd => rfl); (case hg => rfl); (case hr => first | (go_simp; done) | (go_simp; rfl)); intro gb191 hg w37 hbox hb; have n0_ := Aside0.mk (blk_below (g := gb182) (o := .cells #[.int .i64 x0_4, .int .i64 x1_4, .int .i64 x2_4] 24 (0, 0)) (by (with_reducible repeat (first | refine blk_drewN ?_ _ | refine blk_drew ?_ | refine blk_alloc ?_ _)); exact BK182.out) hb); have n1_ := Aside0.mk (below_step (by repeat (first | (with_reducible first | exact HB.out | apply below_alloc | apply pw_below_drewN | apply below_drew1 | refine below_set ?_ GE182.out) | exact HB.out)) hb); have n2_ := Aside0.mk (hbox); have n3_ := Aside0.mk ((by rw [hg]; exact (below_size (by repeat (first | (with_reducible first | exact HB.out | apply below_alloc | apply pw_below_drewN | apply below_drew1 | refine below_set ?_ GE182.out) | exact HB.out))) : w.heap.size ≤ gb191)); have n4_ := Aside0.mk ((by rw [hg]; exact (below_size (by repeat (first | (with_reducible first | exact HB.out | apply below_alloc | apply pw_below_drewN | apply below_drew1 | refine below_set ?_ GE182.out) | exact HB.out))) : w.heap.size ≤ gb191)); have n5_ := Aside0.mk ((by rw [hg]; exact Nat.ne_of_lt (blk_lt (g := gb182) (o := .cells #[.int .i64 x0_4, .int .i64 x1_4, .int .i64 x2_4] 24 (0, 0)) (by (with_reducible repeat (first | refine blk_drewN ?_ _ | refine blk_drew ?_ | refine blk_alloc ?_ _)); exact BK182.out)) : gb182 ≠ gb191)); have n6_ := Aside0.mk ((by rw [hg]; exact Nat.ne_of_gt (blk_lt (g := gb182) (o := .cells #[.int .i64 x0_4, .int .i64 x1_4, .int .i64 x2_4] 24 (0, 0)) (by (with_reducible repeat (first | refine blk_drewN ?_ _ | refine blk_drew ?_ | refine blk_alloc ?_ _)); exact BK182.out)) : gb191 ≠ gb182)); clear BK182; clear HB; have BK182 := n0_; have HB := n1_; have BK191 := n2_; have GW191 := n3_; have GE191 := n4_; have NB182_191 := n5_; have NB191_182 := n6_; clear n0_ n1_ n2_ n3_ n4_ n5_ n6_; clear hb hbox hg; have hnb38 := NB191_182.out; have hnc38 := NB182_191.out; have hcz39_0 : w37.cell? ⟨gb191, 0, none⟩ = some (.int .i64 0) := (blk_cell BK191.out 0).trans rfl; have hcz39_1 : w37.cell? ⟨gb191, 1, none⟩ = some (.int .i64 0) := (blk_cell BK191.out 1).trans rfl; have hcz39_2 : w37.cell? ⟨gb191, 2, none⟩ = some (.int .i64 0) := (blk_cell BK191.out 2).trans rfl; have hfz39_0 := blk_frozen BK191.out 0; have hfz39_1 := blk_frozen BK191.out 1; have hfz39_2 := blk_frozen BK191.out 2; have hcz40_0 : w37.cell? ⟨gb182, 0, none⟩ = some (.int .i64 x0_4) := (blk_cell BK182.out 0).trans rfl; have hcz40_1 : w37.cell? ⟨gb182, 1, none⟩ = some (.int .i64 x1_4) := (blk_cell BK182.out 1).trans rfl; have hcz40_2 : w37.cell? ⟨gb182, 2, none⟩ = some (.int .i64 x2_4) := (blk_cell BK182.out 2).trans rfl; have hfz40_0 := blk_frozen BK182.out 0; have hfz40_1 := blk_frozen BK182.out 1; have hfz40_2 := blk_frozen BK182.out 2))
                go_ret
                exact ⟨by first | rfl | (simp [errW_none, errW_some] <;> rfl) | (simp [*, errW_none, errW_some] <;> rfl), by repeat (first | (with_reducible first | exact HB.out | apply below_alloc | apply pw_below_drewN | apply below_drew1 | refine below_set ?_ GE182.out | refine below_set ?_ GE191.out) | exact HB.out)⟩
            · rw [if_neg c21] at H
              have c21b0 : (t184 == 0) = false := beq_eq_false_iff_ne.mpr c21
              have c21b1 : (t184 != 0) = true := bne_iff_ne.mpr c21
              replace H := Option.bind_eq_some_iff.mp H
              obtain ⟨t193, A410, H⟩ := H
              replace H : (some t193) = some r := H
              have A41 := Aside0.mk A410
              clear A410
              obtain rfl := Option.some.inj H
              go_wp2_with (first | ((with_reducible refine gate_callee (f := 12) rfl ?_); refine goesL_ (some 49) rfl rfl Tryd.func12 (by kernel_rfl) rfl #[.int .i64 t183] rfl (by (try simp only [List.map_toArray, List.map_cons, List.map_nil]); first | done | rfl | (simp only [List.length_drop, List.length_take]; rfl)) ?_; (with_reducible refine (calendar_Of.calls kj11 t183 t187 t188 t189 t190 _ ?side1 A20.out).mono ?_); (case side1 => exact GL_lengths.of_below (by repeat (first | (with_reducible first | exact HB.out | apply below_alloc | apply pw_below_drewN | apply below_drew1 | refine below_set ?_ GE182.out) | exact HB.out)) HG_lengths.out); rintro e w42 ⟨rfl, hb⟩; refine ⟨_, rfl, ?_⟩; have n0_ := Aside0.mk (blk_below (g := gb182) (o := .cells #[.int .i64 x0_4, .int .i64 x1_4, .int .i64 x2_4] 24 (0, 0)) (by (with_reducible repeat (first | refine blk_drewN ?_ _ | refine blk_drew ?_ | refine blk_alloc ?_ _)); exact BK182.out) hb); have n1_ := Aside0.mk (below_step (by repeat (first | (with_reducible first | exact HB.out | apply below_alloc | apply pw_below_drewN | apply below_drew1 | refine below_set ?_ GE182.out) | exact HB.out)) hb); clear BK182; clear HB; have BK182 := n0_; have HB := n1_; clear n0_ n1_; (try clear hb); (try clear hb2); (try clear hk); (try clear hi)) | ((with_reducible refine gate_dst (N := 14) rfl ?_); refine box_event ?hg (N := 14) ?hd (cs := #[.int .i64 0, .int .i64 0, .int .i64 0]) (t := 24) ?hr ?_; (case hd => rfl); (case hg => rfl); (case hr => first | (go_simp; done) | (go_simp; rfl)); intro gb191 hg w43 hbox hb; have n0_ := Aside0.mk (blk_below (g := gb182) (o := .cells #[.int .i64 x0_4, .int .i64 x1_4, .int .i64 x2_4] 24 (0, 0)) (by (with_reducible repeat (first | refine blk_drewN ?_ _ | refine blk_drew ?_ | refine blk_alloc ?_ _)); exact BK182.out) hb); have n1_ := Aside0.mk (below_step (by repeat (first | (with_reducible first | exact HB.out | apply below_alloc | apply pw_below_drewN | apply below_drew1 | refine below_set ?_ GE182.out) | exact HB.out)) hb); have n2_ := Aside0.mk (hbox); have n3_ := Aside0.mk ((by rw [hg]; exact (below_size (by repeat (first | (with_reducible first | exact HB.out | apply below_alloc | apply pw_below_drewN | apply below_drew1 | refine below_set ?_ GE182.out) | exact HB.out))) : w.heap.size ≤ gb191)); have n4_ := Aside0.mk ((by rw [hg]; exact (below_size (by repeat (first | (with_reducible first | exact HB.out | apply below_alloc | apply pw_below_drewN | apply below_drew1 | refine below_set ?_ GE182.out) | exact HB.out))) : w.heap.size ≤ gb191)); have n5_ := Aside0.mk ((by rw [hg]; exact Nat.ne_of_lt (blk_lt (g := gb182) (o := .cells #[.int .i64 x0_4, .int .i64 x1_4, .int .i64 x2_4] 24 (0, 0)) (by (with_reducible repeat (first | refine blk_drewN ?_ _ | refine blk_drew ?_ | refine blk_alloc ?_ _)); exact BK182.out)) : gb182 ≠ gb191)); have n6_ := Aside0.mk ((by rw [hg]; exact Nat.ne_of_gt (blk_lt (g := gb182) (o := .cells #[.int .i64 x0_4, .int .i64 x1_4, .int .i64 x2_4] 24 (0, 0)) (by (with_reducible repeat (first | refine blk_drewN ?_ _ | refine blk_drew ?_ | refine blk_alloc ?_ _)); exact BK182.out)) : gb191 ≠ gb182)); clear BK182; clear HB; have BK182 := n0_; have HB := n1_; have BK191 := n2_; have GW191 := n3_; have GE191 := n4_; have NB182_191 := n5_; have NB191_182 := n6_; clear n0_ n1_ n2_ n3_ n4_ n5_ n6_; clear hb hbox hg; have hnb44 := NB191_182.out; have hnc44 := NB182_191.out; have hcz45_0 : w43.cell? ⟨gb191, 0, none⟩ = some (.int .i64 0) := (blk_cell BK191.out 0).trans rfl; have hcz45_1 : w43.cell? ⟨gb191, 1, none⟩ = some (.int .i64 0) := (blk_cell BK191.out 1).trans rfl; have hcz45_2 : w43.cell? ⟨gb191, 2, none⟩ = some (.int .i64 0) := (blk_cell BK191.out 2).trans rfl; have hfz45_0 := blk_frozen BK191.out 0; have hfz45_1 := blk_frozen BK191.out 1; have hfz45_2 := blk_frozen BK191.out 2) | (go_at_call 17; (with_reducible refine (customslaw04_awake.calls kj11  t193 _ ?side1 A41.out).mono ?_); (case side1 => exact GL_lengths.of_below (by repeat (first | (with_reducible first | exact HB.out | apply below_alloc | apply pw_below_drewN | apply below_drew1 | refine below_set ?_ GE182.out | refine below_set ?_ GE191.out) | exact HB.out)) HG_lengths.out); rintro e w46 ⟨rfl, hb⟩; have n0_ := Aside0.mk (blk_below (g := gb182) (o := .cells #[.int .i64 x0_4, .int .i64 x1_4, .int .i64 x2_4] 24 (0, 0)) (by (with_reducible repeat (first | refine blk_drewN ?_ _ | refine blk_drew ?_ | refine blk_alloc ?_ _)); refine blk_far ?_ NB182_191.out _; (with_reducible repeat (first | refine blk_drewN ?_ _ | refine blk_drew ?_ | refine blk_alloc ?_ _)); refine blk_far ?_ NB182_191.out _; (with_reducible repeat (first | refine blk_drewN ?_ _ | refine blk_drew ?_ | refine blk_alloc ?_ _)); refine blk_far ?_ NB182_191.out _; (with_reducible repeat (first | refine blk_drewN ?_ _ | refine blk_drew ?_ | refine blk_alloc ?_ _)); exact BK182.out) hb); have n1_ := Aside0.mk (blk_below (g := gb191) (o := .cells #[.int .i64 t187, .int .i64 t188, .int .i64 t189] 24 (0, 0)) (by (with_reducible repeat (first | refine blk_drewN ?_ _ | refine blk_drew ?_ | refine blk_alloc ?_ _)); refine blk_put (cs := #[.int .i64 t187, .int .i64 t188, .int .i64 0]) ?_ 2 _ rfl; (with_reducible repeat (first | refine blk_drewN ?_ _ | refine blk_drew ?_ | refine blk_alloc ?_ _)); refine blk_put (cs := #[.int .i64 t187, .int .i64 0, .int .i64 0]) ?_ 1 _ rfl; (with_reducible repeat (first | refine blk_drewN ?_ _ | refine blk_drew ?_ | refine blk_alloc ?_ _)); refine blk_put (cs := #[.int .i64 0, .int .i64 0, .int .i64 0]) ?_ 0 _ rfl; (with_reducible repeat (first | refine blk_drewN ?_ _ | refine blk_drew ?_ | refine blk_alloc ?_ _)); exact BK191.out) hb); have n2_ := Aside0.mk (below_step (by repeat (first | (with_reducible first | exact HB.out | apply below_alloc | apply pw_below_drewN | apply below_drew1 | refine below_set ?_ GE182.out | refine below_set ?_ GE191.out) | exact HB.out)) hb); clear BK182; clear BK191; clear HB; have BK182 := n0_; have BK191 := n1_; have HB := n2_; clear n0_ n1_ n2_; (try clear hb); (try clear hb2); (try clear hk); (try clear hi)))
              go_ret
              exact ⟨by first | rfl | (simp [errW_none, errW_some] <;> rfl) | (simp [*, errW_none, errW_some] <;> rfl), by repeat (first | (with_reducible first | exact HB.out | apply below_alloc | apply pw_below_drewN | apply below_drew1 | refine below_set ?_ GE182.out | refine below_set ?_ GE191.out) | exact HB.out)⟩

/-- THE ONE PURE STATEMENT of customslaw04_CalendarNumbers: yours. -/
def customslaw04_CalendarNumbers.Pure : Prop := ∀ (a0 : Int) (a1 : Int) (a2 : Int) (a3 : Bool), (Lit.int .i64 a0).wf = true → (Lit.int .i64 a1).wf = true → (Lit.int .i64 a2).wf = true → ∃ k, customslaw04_CalendarNumbers.f k a0 a1 a2 a3 = some true
theorem customslaw04_CalendarNumbers.walk (P : customslaw04_CalendarNumbers.Pure) (a0 : Int) (a1 : Int) (a2 : Int) (a3 : Bool) (w : World) (hG_lengths : GL_lengths w) (w0 : (Lit.int .i64 a0).wf = true) (w1 : (Lit.int .i64 a1).wf = true) (w2 : (Lit.int .i64 a2).wf = true) :
    Calls Tryd.prog 4 #[.int .i64 a0, .int .i64 a1, .int .i64 a2, .bool a3] w fun e w' => e = .returned (.bool true) ∧ Below w.heap.size w w' := by
  obtain ⟨k, h⟩ := P a0 a1 a2 a3 w0 w1 w2
  refine (customslaw04_CalendarNumbers.calls k a0 a1 a2 a3 true w hG_lengths h).mono ?_
  rintro e w' ⟨rfl, hd⟩
  exact ⟨rfl, hd⟩

end Go.Proofs.YtlmcejiebobfbaaDoor.G
