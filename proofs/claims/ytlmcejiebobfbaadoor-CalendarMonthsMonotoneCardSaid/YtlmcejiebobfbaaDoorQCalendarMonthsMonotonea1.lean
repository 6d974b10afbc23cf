/-
  Functions of the program and of the references as plain Lean functions, each with a proof that the machine's call comes to what it answers. Conditions: what each contract states.
-/
import Derived.Test.YtlmcejiebobfbaaDoorQCorew1
import Derived.Test.YtlmcejiebobfbaaDoorQCorea1
import Derived.Test.YtlmcejiebobfbaaDoorQCorea2
import Derived.Test.YtlmcejiebobfbaaDoorQCorea3
namespace Go.Proofs.YtlmcejiebobfbaaDoor.G
open Go.RowKit Go.Proofs.YtlmcejiebobfbaaDoorW.PrintWords Go.Proofs.YtlmcejiebobfbaaDoorW.PrintLast Go.Proofs.YtlmcejiebobfbaaDoorW.PrintMore
attribute [local go_sem] max2_int min2_int max_two min_two max_three min_three max_four min_four   -- for this text's walks alone
set_option linter.unusedVariables false
set_option linter.unusedSimpArgs false

mutual
def customslaw04_CalendarMonthsMonotone.j0 : Nat → Int → Int → Int → Int → Int → Bool → Option (Bool)
 | 0, _, _, _, _, _, _ => none
 | k + 1, x0, x2, x3, x9, x10, x49 => if x49 = true then (some false) else ((calendar_AddMonths.f k x0 (wrap64 (x2 + x3))).bind fun bt246 => ((calendar_AddMonths.f k x9 x3).bind fun bt248 => (if x10 = 0 then (if bt246.2 = 0 then (customslaw04_CalendarMonthsMonotone.j1 k bt246.1 bt248.1 (bt248.2 != 0)) else (customslaw04_CalendarMonthsMonotone.j1 k bt246.1 bt248.1 true)) else (customslaw04_CalendarMonthsMonotone.j1 k bt246.1 bt248.1 true))))
def customslaw04_CalendarMonthsMonotone.j1 : Nat → Int → Int → Bool → Option (Bool)
 | 0, _, _, _ => none
 | k + 1, x13, x15, x73 => if x73 = true then ((customslaw04_awake.f k).bind fun t250 => (some t250)) else (if x15 ≤ x13 then (if (wrap64 (x13 - x15)) ≤ 3 then ((customslaw04_awake.f k).bind fun t251 => (some t251)) else (some false)) else (some false))
end
def customslaw04_CalendarMonthsMonotone.f (k : Nat) (a0 : Int) (a1 : Int) (a2 : Int) (a3 : Int) : Option (Bool) := (customsmade_Day.f a0).bind fun t238 => ((customsmade_Within.f a1 100).bind fun t239 => ((customsmade_Within.f a2 600).bind fun t240 => ((customsmade_Within.f a3 600).bind fun t241 => ((calendar_AddMonths.f k t238 t240).bind fun bt242 => ((calendar_AddMonths.f k (wrap64 (t238 + t239)) t240).bind fun bt244 => (if bt242.2 = 0 then (if bt244.2 = 0 then (customslaw04_CalendarMonthsMonotone.j0 k t238 t240 t241 bt242.1 bt242.2 (decide (bt242.1 > bt244.1))) else (customslaw04_CalendarMonthsMonotone.j0 k t238 t240 t241 bt242.1 bt242.2 false)) else (customslaw04_CalendarMonthsMonotone.j0 k t238 t240 t241 bt242.1 bt242.2 false)))))))
set_option maxHeartbeats 8000000 in
set_option maxRecDepth 100000 in
theorem customslaw04_CalendarMonthsMonotone.calls (k : Nat) (a0 : Int) (a1 : Int) (a2 : Int) (a3 : Int) (r : Bool) (w : World) (hG_lengths : GL_lengths w) (h : customslaw04_CalendarMonthsMonotone.f k a0 a1 a2 a3 = some r) :
  Calls Tryd.prog 7 #[.int .i64 a0, .int .i64 a1, .int .i64 a2, .int .i64 a3] w fun e w' => e = .returned (.bool r) ∧ Below w.heap.size w w' := by
 have HG_lengths := Aside0.mk hG_lengths
 clear hG_lengths
 have HB := Aside0.mk (Below.refl w.heap.size w)
 have H : ((customsmade_Day.f a0).bind fun t238 => ((customsmade_Within.f a1 100).bind fun t239 => ((customsmade_Within.f a2 600).bind fun t240 => ((customsmade_Within.f a3 600).bind fun t241 => ((calendar_AddMonths.f k t238 t240).bind fun bt242 => ((calendar_AddMonths.f k (wrap64 (t238 + t239)) t240).bind fun bt244 => (if bt242.2 = 0 then (if bt244.2 = 0 then (customslaw04_CalendarMonthsMonotone.j0 k t238 t240 t241 bt242.1 bt242.2 (decide (bt242.1 > bt244.1))) else (customslaw04_CalendarMonthsMonotone.j0 k t238 t240 t241 bt242.1 bt242.2 false)) else (customslaw04_CalendarMonthsMonotone.j0 k t238 t240 t241 bt242.1 bt242.2 false)))))))) = some r := h
 clear h
 replace H := Option.bind_eq_some_iff.mp H
 obtain ⟨t238, A50, H⟩ := H
 replace H : ((customsmade_Within.f a1 100).bind fun t239 => ((customsmade_Within.f a2 600).bind fun t240 => ((customsmade_Within.f a3 600).bind fun t241 => ((calendar_AddMonths.f k t238 t240).bind fun bt242 => ((calendar_AddMonths.f k (wrap64 (t238 + t239)) t240).bind fun bt244 => (if bt242.2 = 0 then (if bt244.2 = 0 then (customslaw04_CalendarMonthsMonotone.j0 k t238 t240 t241 bt242.1 bt242.2 (decide (bt242.1 > bt244.1))) else (customslaw04_CalendarMonthsMonotone.j0 k t238 t240 t241 bt242.1 bt242.2 false)) else (customslaw04_CalendarMonthsMonotone.j0 k t238 t240 t241 bt242.1 bt242.2 false))))))) = some r := H
 have A5 := Aside0.mk A50
 clear A50
 replace H := Option.bind_eq_some_iff.mp H
 obtain ⟨t239, A60, H⟩ := H
 replace H : ((customsmade_Within.f a2 600).bind fun t240 => ((customsmade_Within.f a3 600).bind fun t241 => ((calendar_AddMonths.f k t238 t240).bind fun bt242 => ((calendar_AddMonths.f k (wrap64 (t238 + t239)) t240).bind fun bt244 => (if bt242.2 = 0 then (if bt244.2 = 0 then (customslaw04_CalendarMonthsMonotone.j0 k t238 t240 t241 bt242.1 bt242.2 (decide (bt242.1 > bt244.1))) else (customslaw04_CalendarMonthsMonotone.j0 k t238 t240 t241 bt242.1 bt242.2 false)) else (customslaw04_CalendarMonthsMonotone.j0 k t238 t240 t241 bt242.1 bt242.2 false)))))) = some r := H
 have A6 := Aside0.mk A60
 clear A60
 replace H := Option.bind_eq_some_iff.mp H
 obtain ⟨t240, A70, H⟩ := H
 replace H : ((customsmade_Within.f a3 600).bind fun t241 => ((calendar_AddMonths.f k t238 t240).bind fun bt242 => ((calendar_AddMonths.f k (wrap64 (t238 + t239)) t240).bind fun bt244 => (if bt242.2 = 0 then (if bt244.2 = 0 then (customslaw04_CalendarMonthsMonotone.j0 k t238 t240 t241 bt242.1 bt242.2 (decide (bt242.1 > bt244.1))) else (customslaw04_CalendarMonthsMonotone.j0 k t238 t240 t241 bt242.1 bt242.2 false)) else (customslaw04_CalendarMonthsMonotone.j0 k t238 t240 t241 bt242.1 bt242.2 false))))) = some r := H
 have A7 := Aside0.mk A70
 clear A70
 replace H := Option.bind_eq_some_iff.mp H
 obtain ⟨t241, A80, H⟩ := H
 replace H : ((calendar_AddMonths.f k t238 t240).bind fun bt242 => ((calendar_AddMonths.f k (wrap64 (t238 + t239)) t240).bind fun bt244 => (if bt242.2 = 0 then (if bt244.2 = 0 then (customslaw04_CalendarMonthsMonotone.j0 k t238 t240 t241 bt242.1 bt242.2 (decide (bt242.1 > bt244.1))) else (customslaw04_CalendarMonthsMonotone.j0 k t238 t240 t241 bt242.1 bt242.2 false)) else (customslaw04_CalendarMonthsMonotone.j0 k t238 t240 t241 bt242.1 bt242.2 false)))) = some r := H
 have A8 := Aside0.mk A80
 clear A80
 replace H := Option.bind_eq_some_iff.mp H
 obtain ⟨⟨t242, t243⟩, A90, H⟩ := H
 replace H : ((calendar_AddMonths.f k (wrap64 (t238 + t239)) t240).bind fun bt244 => (if t243 = 0 then (if bt244.2 = 0 then (customslaw04_CalendarMonthsMonotone.j0 k t238 t240 t241 t242 t243 (decide (t242 > bt244.1))) else (customslaw04_CalendarMonthsMonotone.j0 k t238 t240 t241 t242 t243 false)) else (customslaw04_CalendarMonthsMonotone.j0 k t238 t240 t241 t242 t243 false))) = some r := H
 have A9 := Aside0.mk A90
 clear A90
 replace H := Option.bind_eq_some_iff.mp H
 obtain ⟨⟨t244, t245⟩, A100, H⟩ := H
 replace H : (if t243 = 0 then (if t245 = 0 then (customslaw04_CalendarMonthsMonotone.j0 k t238 t240 t241 t242 t243 (decide (t242 > t244))) else (customslaw04_CalendarMonthsMonotone.j0 k t238 t240 t241 t242 t243 false)) else (customslaw04_CalendarMonthsMonotone.j0 k t238 t240 t241 t242 t243 false)) = some r := H
 have A10 := Aside0.mk A100
 clear A100
 have HC11 := Aside0.mk H
 clear H
 go_enter Tryd.func7, Tryd.ntmps7
 go_upto_region 4 with (first | ((with_reducible refine gate_callee (f := 11) rfl ?_); refine goesL_ (some 18) rfl rfl Tryd.func11 (by kernel_rfl) rfl #[.int .i64 a0] rfl (by (try simp only [List.map_toArray, List.map_cons, List.map_nil]); first | done | rfl | (simp only [List.length_drop, List.length_take]; rfl)) ?_; (with_reducible refine (customsmade_Day.calls a0 t238 _ A5.out).mono ?_); rintro e w' ⟨rfl, ⟨nd, rfl⟩⟩; refine ⟨_, rfl, ?_⟩) | ((with_reducible refine gate_callee (f := 18) rfl ?_); refine goesL_ (some 20) rfl rfl Tryd.func18 (by kernel_rfl) rfl #[.int .i64 a1, .int .i64 100] rfl (by (try simp only [List.map_toArray, List.map_cons, List.map_nil]); first | done | rfl | (simp only [List.length_drop, List.length_take]; rfl)) ?_; (with_reducible refine (customsmade_Within.calls a1 100 t239 _ A6.out).mono ?_); rintro e w' ⟨rfl, ⟨nd, rfl⟩⟩; refine ⟨_, rfl, ?_⟩) | ((with_reducible refine gate_callee (f := 18) rfl ?_); refine goesL_ (some 22) rfl rfl Tryd.func18 (by kernel_rfl) rfl #[.int .i64 a2, .int .i64 600] rfl (by (try simp only [List.map_toArray, List.map_cons, List.map_nil]); first | done | rfl | (simp only [List.length_drop, List.length_take]; rfl)) ?_; (with_reducible refine (customsmade_Within.calls a2 600 t240 _ A7.out).mono ?_); rintro e w' ⟨rfl, ⟨nd, rfl⟩⟩; refine ⟨_, rfl, ?_⟩) | ((with_reducible refine gate_callee (f := 18) rfl ?_); refine goesL_ (some 24) rfl rfl Tryd.func18 (by kernel_rfl) rfl #[.int .i64 a3, .int .i64 600] rfl (by (try simp only [List.map_toArray, List.map_cons, List.map_nil]); first | done | rfl | (simp only [List.length_drop, List.length_take]; rfl)) ?_; (with_reducible refine (customsmade_Within.calls a3 600 t241 _ A8.out).mono ?_); rintro e w' ⟨rfl, ⟨nd, rfl⟩⟩; refine ⟨_, rfl, ?_⟩) | ((with_reducible refine gate_callee (f := 20) rfl ?_); refine goesL_ (some 28) rfl rfl Tryd.func20 (by kernel_rfl) rfl #[.int .i64 t238, .int .i64 t240] rfl (by (try simp only [List.map_toArray, List.map_cons, List.map_nil]); first | done | rfl | (simp only [List.length_drop, List.length_take]; rfl)) ?_; (with_reducible refine (calendar_AddMonths.calls k t238 t240 t242 t243 _ ?side1 A9.out).mono ?_); (case side1 => exact GL_lengths.of_below (by repeat (first | (with_reducible first | exact HB.out | apply below_alloc | apply pw_below_drewN | apply below_drew1) | exact HB.out)) HG_lengths.out); rintro e w12 ⟨rfl, hb⟩; refine ⟨_, rfl, ?_⟩; have n0_ := Aside0.mk (below_step (by repeat (first | (with_reducible first | exact HB.out | apply below_alloc | apply pw_below_drewN | apply below_drew1) | exact HB.out)) hb); clear HB; have HB := n0_; clear n0_; (try clear hb); (try clear hb2); (try clear hk); (try clear hi)) | ((with_reducible refine gate_callee (f := 20) rfl ?_); refine goesL_ (some 36) rfl rfl Tryd.func20 (by kernel_rfl) rfl #[.int .i64 (wrap64 (t238 + t239)), .int .i64 t240] rfl (by (try simp only [List.map_toArray, List.map_cons, List.map_nil]); first | done | rfl | (simp only [List.length_drop, List.length_take]; rfl)) ?_; (with_reducible refine (calendar_AddMonths.calls k (wrap64 (t238 + t239)) t240 t244 t245 _ ?side1 A10.out).mono ?_); (case side1 => exact GL_lengths.of_below (by repeat (first | (with_reducible first | exact HB.out | apply below_alloc | apply pw_below_drewN | apply below_drew1) | exact HB.out)) HG_lengths.out); rintro e w13 ⟨rfl, hb⟩; refine ⟨_, rfl, ?_⟩; have n0_ := Aside0.mk (below_step (by repeat (first | (with_reducible first | exact HB.out | apply below_alloc | apply pw_below_drewN | apply below_drew1) | exact HB.out)) hb); clear HB; have HB := n0_; clear n0_; (try clear hb); (try clear hb2); (try clear hk); (try clear hi)))
 (try simp only [Act.put, List.setIfInBounds_toArray, List.set_cons_zero, List.set_cons_succ])
 go_cut [49] (fun v49 wc => ∃ (kq : Nat) (x49_10 : Bool), v49 = .bool x49_10 ∧ Aside0 (customslaw04_CalendarMonthsMonotone.j0 kq t238 t240 t241 t242 t243 x49_10 = some r) ∧ Aside0 (kq ≤ k) ∧ Aside0 (Below w.heap.size w wc))
 case first =>
  have H := HC11.out
  clear HC11
  by_cases c14 : t243 = 0
  ·
   rw [if_pos c14] at H
   have c14b0 : (t243 == 0) = true := beq_iff_eq.mpr c14
   have c14b1 : (t243 != 0) = false := bne_eq_false_iff_eq.mpr c14
   clear c14
   (first | rw [c14b0] | (simp only [i64_w, i32_w]; rw [c14b0]) | skip)
   by_cases c15 : t245 = 0
   ·
    rw [if_pos c15] at H
    have c15b0 : (t245 == 0) = true := beq_iff_eq.mpr c15
    have c15b1 : (t245 != 0) = false := bne_eq_false_iff_eq.mpr c15
    clear c15
    have H' := Aside0.mk H
    clear H
    go_wp2
    go_meet
    case rel => exact ⟨_, (decide (t242 > t244)), (by first | rfl | (simp; done) | (simp [*]; done)), H', ⟨by first | omega | exact Nat.le_refl _⟩, ⟨by repeat (first | (with_reducible first | exact HB.out | apply below_alloc | apply pw_below_drewN | apply below_drew1) | exact HB.out)⟩⟩
   ·
    rw [if_neg c15] at H
    have c15b0 : (t245 == 0) = false := beq_eq_false_iff_ne.mpr c15
    have c15b1 : (t245 != 0) = true := bne_iff_ne.mpr c15
    have H' := Aside0.mk H
    clear H
    go_wp2
    go_meet
    case rel => exact ⟨_, (false), (by first | rfl | (simp; done) | (simp [*]; done)), H', ⟨by first | omega | exact Nat.le_refl _⟩, ⟨by repeat (first | (with_reducible first | exact HB.out | apply below_alloc | apply pw_below_drewN | apply below_drew1) | exact HB.out)⟩⟩
  ·
   rw [if_neg c14] at H
   have c14b0 : (t243 == 0) = false := beq_eq_false_iff_ne.mpr c14
   have c14b1 : (t243 != 0) = true := bne_iff_ne.mpr c14
   (first | rw [c14b0] | (simp only [i64_w, i32_w]; rw [c14b0]) | skip)
   have H' := Aside0.mk H
   clear H
   go_wp2
   go_meet
   case rel => exact ⟨_, (false), (by first | rfl | (simp; done) | (simp [*]; done)), H', ⟨by first | omega | exact Nat.le_refl _⟩, ⟨by repeat (first | (with_reducible first | exact HB.out | apply below_alloc | apply pw_below_drewN | apply below_drew1) | exact HB.out)⟩⟩
 case rest =>
  clear HC11
  try clear c1
  try clear c2
  try clear p2
  try clear p6
  try clear c7
  try clear c11
  try clear c14
  try clear c14b0
  try clear c14b1
  try clear c15
  try clear c15b0
  try clear c15b1
  obtain ⟨kq, x49_10, rfl, HA, HJ10, HB⟩ := hcut
  cases kq with
  | zero => exact absurd HA.out (by simp [customslaw04_CalendarMonthsMonotone.j0])
  | succ kj10 =>
   have H := HA.out
   clear HA
   simp only [customslaw04_CalendarMonthsMonotone.j0] at H
   by_cases c16 : x49_10 = true
   ·
    subst c16
    have H1 : (some false) = some r := by rw [if_pos rfl] at H; exact H
    clear H
    have H := H1
    clear H1
    obtain rfl := Option.some.inj H
    go_wp2
    go_ret
    exact ⟨by first | rfl | (simp [errW_none, errW_some] <;> rfl) | (simp [*, errW_none, errW_some] <;> rfl), by repeat (first | (with_reducible first | exact HB.out | apply below_alloc | apply pw_below_drewN | apply below_drew1) | exact HB.out)⟩
   ·
    replace c16 := Bool.eq_false_iff.mpr c16
    subst c16
    have H1 : ((calendar_AddMonths.f kj10 t238 (wrap64 (t240 + t241))).bind fun bt246 => ((calendar_AddMonths.f kj10 t242 t241).bind fun bt248 => (if t243 = 0 then (if bt246.2 = 0 then (customslaw04_CalendarMonthsMonotone.j1 kj10 bt246.1 bt248.1 (bt248.2 != 0)) else (customslaw04_CalendarMonthsMonotone.j1 kj10 bt246.1 bt248.1 true)) else (customslaw04_CalendarMonthsMonotone.j1 kj10 bt246.1 bt248.1 true)))) = some r := by rw [if_neg (show ¬ (false = true) by decide)] at H; exact H
    clear H
    have H := H1
    clear H1
    replace H := Option.bind_eq_some_iff.mp H
    obtain ⟨⟨t246, t247⟩, A170, H⟩ := H
    replace H : ((calendar_AddMonths.f kj10 t242 t241).bind fun bt248 => (if t243 = 0 then (if t247 = 0 then (customslaw04_CalendarMonthsMonotone.j1 kj10 t246 bt248.1 (bt248.2 != 0)) else (customslaw04_CalendarMonthsMonotone.j1 kj10 t246 bt248.1 true)) else (customslaw04_CalendarMonthsMonotone.j1 kj10 t246 bt248.1 true))) = some r := H
    have A17 := Aside0.mk A170
    clear A170
    replace H := Option.bind_eq_some_iff.mp H
    obtain ⟨⟨t248, t249⟩, A180, H⟩ := H
    replace H : (if t243 = 0 then (if t247 = 0 then (customslaw04_CalendarMonthsMonotone.j1 kj10 t246 t248 (t249 != 0)) else (customslaw04_CalendarMonthsMonotone.j1 kj10 t246 t248 true)) else (customslaw04_CalendarMonthsMonotone.j1 kj10 t246 t248 true)) = some r := H
    have A18 := Aside0.mk A180
    clear A180
    have HC19 := Aside0.mk H
    clear H
    go_upto_region 8 with (first | ((with_reducible refine gate_callee (f := 20) rfl ?_); refine goesL_ (some 55) rfl rfl Tryd.func20 (by kernel_rfl) rfl #[.int .i64 t238, .int .i64 (wrap64 (t240 + t241))] rfl (by (try simp only [List.map_toArray, List.map_cons, List.map_nil]); first | done | rfl | (simp only [List.length_drop, List.length_take]; rfl)) ?_; (with_reducible refine (calendar_AddMonths.calls kj10 t238 (wrap64 (t240 + t241)) t246 t247 _ ?side1 A17.out).mono ?_); (case side1 => exact GL_lengths.of_below (by repeat (first | (with_reducible first | exact HB.out | apply below_alloc | apply pw_below_drewN | apply below_drew1) | exact HB.out)) HG_lengths.out); rintro e w20 ⟨rfl, hb⟩; refine ⟨_, rfl, ?_⟩; have n0_ := Aside0.mk (below_step (by repeat (first | (with_reducible first | exact HB.out | apply below_alloc | apply pw_below_drewN | apply below_drew1) | exact HB.out)) hb); clear HB; have HB := n0_; clear n0_; (try clear hb); (try clear hb2); (try clear hk); (try clear hi)) | ((with_reducible refine gate_callee (f := 20) rfl ?_); refine goesL_ (some 61) rfl rfl Tryd.func20 (by kernel_rfl) rfl #[.int .i64 t242, .int .i64 t241] rfl (by (try simp only [List.map_toArray, List.map_cons, List.map_nil]); first | done | rfl | (simp only [List.length_drop, List.length_take]; rfl)) ?_; (with_reducible refine (calendar_AddMonths.calls kj10 t242 t241 t248 t249 _ ?side1 A18.out).mono ?_); (case side1 => exact GL_lengths.of_below (by repeat (first | (with_reducible first | exact HB.out | apply below_alloc | apply pw_below_drewN | apply below_drew1) | exact HB.out)) HG_lengths.out); rintro e w21 ⟨rfl, hb⟩; refine ⟨_, rfl, ?_⟩; have n0_ := Aside0.mk (below_step (by repeat (first | (with_reducible first | exact HB.out | apply below_alloc | apply pw_below_drewN | apply below_drew1) | exact HB.out)) hb); clear HB; have HB := n0_; clear n0_; (try clear hb); (try clear hb2); (try clear hk); (try clear hi)))
    (try simp only [Act.put, List.setIfInBounds_toArray, List.set_cons_zero, List.set_cons_succ])
    go_cut [73] (fun v73 wc => ∃ (kq : Nat) (x73_18 : Bool), v73 = .bool x73_18 ∧ Aside0 (customslaw04_CalendarMonthsMonotone.j1 kq t246 t248 x73_18 = some r) ∧ Aside0 (kq ≤ kj10) ∧ Aside0 (Below w.heap.size w wc))
    case first =>
     have H := HC19.out
     clear HC19
     by_cases c22 : t243 = 0
     ·
      rw [if_pos c22] at H
      have c22b0 : (t243 == 0) = true := beq_iff_eq.mpr c22
      have c22b1 : (t243 != 0) = false := bne_eq_false_iff_eq.mpr c22
      clear c22
      (first | rw [c22b0] | (simp only [i64_w, i32_w]; rw [c22b0]) | skip)
      by_cases c23 : t247 = 0
      ·
       rw [if_pos c23] at H
       have c23b0 : (t247 == 0) = true := beq_iff_eq.mpr c23
       have c23b1 : (t247 != 0) = false := bne_eq_false_iff_eq.mpr c23
       clear c23
       have H' := Aside0.mk H
       clear H
       go_wp2
       go_meet
       case rel => exact ⟨_, ((t249 != 0)), (by first | rfl | (simp; done) | (simp [*]; done)), H', ⟨by have := HJ10.out; first | omega | exact Nat.le_refl _⟩, ⟨by repeat (first | (with_reducible first | exact HB.out | apply below_alloc | apply pw_below_drewN | apply below_drew1) | exact HB.out)⟩⟩
      ·
       rw [if_neg c23] at H
       have c23b0 : (t247 == 0) = false := beq_eq_false_iff_ne.mpr c23
       have c23b1 : (t247 != 0) = true := bne_iff_ne.mpr c23
       have H' := Aside0.mk H
       clear H
       go_wp2
       go_meet
       case rel => exact ⟨_, (true), (by first | rfl | (simp; done) | (simp [*]; done)), H', ⟨by have := HJ10.out; first | omega | exact Nat.le_refl _⟩, ⟨by repeat (first | (with_reducible first | exact HB.out | apply below_alloc | apply pw_below_drewN | apply below_drew1) | exact HB.out)⟩⟩
     ·
      rw [if_neg c22] at H
      have c22b0 : (t243 == 0) = false := beq_eq_false_iff_ne.mpr c22
      have c22b1 : (t243 != 0) = true := bne_iff_ne.mpr c22
      (first | rw [c22b0] | (simp only [i64_w, i32_w]; rw [c22b0]) | skip)
      have H' := Aside0.mk H
      clear H
      go_wp2
      go_meet
      case rel => exact ⟨_, (true), (by first | rfl | (simp; done) | (simp [*]; done)), H', ⟨by have := HJ10.out; first | omega | exact Nat.le_refl _⟩, ⟨by repeat (first | (with_reducible first | exact HB.out | apply below_alloc | apply pw_below_drewN | apply below_drew1) | exact HB.out)⟩⟩
    case rest =>
     clear HC19
     try clear c1
     try clear c2
     try clear p2
     try clear p6
     try clear c7
     try clear c11
     try clear c14
     try clear c14b0
     try clear c14b1
     try clear c15
     try clear c15b0
     try clear c15b1
     try clear c16
     try clear c18
     try clear c20
     try clear c22
     try clear c22b0
     try clear c22b1
     try clear c23
     try clear c23b0
     try clear c23b1
     try clear p2
     try clear p6
     obtain ⟨kq, x73_18, rfl, HA, HJ18, HB⟩ := hcut
     cases kq with
     | zero => exact absurd HA.out (by simp [customslaw04_CalendarMonthsMonotone.j1])
     | succ kj18 =>
      have H := HA.out
      clear HA
      simp only [customslaw04_CalendarMonthsMonotone.j1] at H
      by_cases c24 : x73_18 = true
      ·
       subst c24
       have H1 : ((customslaw04_awake.f kj18).bind fun t250 => (some t250)) = some r := by rw [if_pos rfl] at H; exact H
       clear H
       have H := H1
       clear H1
       replace H := Option.bind_eq_some_iff.mp H
       obtain ⟨t250, A250, H⟩ := H
       replace H : (some t250) = some r := H
       have A25 := Aside0.mk A250
       clear A250
       obtain rfl := Option.some.inj H
       go_wp2_with (first | ((with_reducible refine gate_callee (f := 17) rfl ?_); refine goesL_ (some 74) rfl rfl Tryd.func17 (by kernel_rfl) rfl #[] rfl (by (try simp only [List.map_toArray, List.map_cons, List.map_nil]); first | done | rfl | (simp only [List.length_drop, List.length_take]; rfl)) ?_; (with_reducible refine (customslaw04_awake.calls kj18  t250 _ ?side1 A25.out).mono ?_); (case side1 => exact GL_lengths.of_below (by repeat (first | (with_reducible first | exact HB.out | apply below_alloc | apply pw_below_drewN | apply below_drew1) | exact HB.out)) HG_lengths.out); rintro e w26 ⟨rfl, hb⟩; refine ⟨_, rfl, ?_⟩; have n0_ := Aside0.mk (below_step (by repeat (first | (with_reducible first | exact HB.out | apply below_alloc | apply pw_below_drewN | apply below_drew1) | exact HB.out)) hb); clear HB; have HB := n0_; clear n0_; (try clear hb); (try clear hb2); (try clear hk); (try clear hi)))
       go_ret
       exact ⟨by first | rfl | (simp [errW_none, errW_some] <;> rfl) | (simp [*, errW_none, errW_some] <;> rfl), by repeat (first | (with_reducible first | exact HB.out | apply below_alloc | apply pw_below_drewN | apply below_drew1) | exact HB.out)⟩
      ·
       replace c24 := Bool.eq_false_iff.mpr c24
       subst c24
       have H1 : (if t248 ≤ t246 then (if (wrap64 (t246 - t248)) ≤ 3 then ((customslaw04_awake.f kj18).bind fun t251 => (some t251)) else (some false)) else (some false)) = some r := by rw [if_neg (show ¬ (false = true) by decide)] at H; exact H
       clear H
       have H := H1
       clear H1
       by_cases c27 : t248 ≤ t246
       ·
        rw [if_pos c27] at H
        have c27b0 : decide (t248 ≤ t246) = true := decide_eq_true c27
        clear c27
        by_cases c28 : (wrap64 (t246 - t248)) ≤ 3
        ·
         rw [if_pos c28] at H
         have c28b0 : decide ((wrap64 (t246 - t248)) ≤ 3) = true := decide_eq_true c28
         clear c28
         replace H := Option.bind_eq_some_iff.mp H
         obtain ⟨t251, A290, H⟩ := H
         replace H : (some t251) = some r := H
         have A29 := Aside0.mk A290
         clear A290
         obtain rfl := Option.some.inj H
         go_wp2_with (first | (go_at_call 17; (with_reducible refine (customslaw04_awake.calls kj18  t251 _ ?side1 A29.out).mono ?_); (case side1 => exact GL_lengths.of_below (by repeat (first | (with_reducible first | exact HB.out | apply below_alloc | apply pw_below_drewN | apply below_drew1) | exact HB.out)) HG_lengths.out); rintro e w30 ⟨rfl, hb⟩; have n0_ := Aside0.mk (below_step (by repeat (first | (with_reducible first | exact HB.out | apply below_alloc | apply pw_below_drewN | apply below_drew1) | exact HB.out)) hb); clear HB; have HB := n0_; clear n0_; (try clear hb); (try clear hb2); (try clear hk); (try clear hi)))
         go_ret
         exact ⟨by first | rfl | (simp [errW_none, errW_some] <;> rfl) | (simp [*, errW_none, errW_some] <;> rfl), by repeat (first | (with_reducible first | exact HB.out | apply below_alloc | apply pw_below_drewN | apply below_drew1) | exact HB.out)⟩
        ·
         rw [if_neg c28] at H
         have c28b0 : decide ((wrap64 (t246 - t248)) ≤ 3) = false := decide_eq_false c28
         clear c28
         obtain rfl := Option.some.inj H
         go_wp2
         go_ret
         exact ⟨by first | rfl | (simp [errW_none, errW_some] <;> rfl) | (simp [*, errW_none, errW_some] <;> rfl), by repeat (first | (with_reducible first | exact HB.out | apply below_alloc | apply pw_below_drewN | apply below_drew1) | exact HB.out)⟩
       ·
        rw [if_neg c27] at H
        have c27b0 : decide (t248 ≤ t246) = false := decide_eq_false c27
        clear c27
        obtain rfl := Option.some.inj H
        go_wp2
        go_ret
        exact ⟨by first | rfl | (simp [errW_none, errW_some] <;> rfl) | (simp [*, errW_none, errW_some] <;> rfl), by repeat (first | (with_reducible first | exact HB.out | apply below_alloc | apply pw_below_drewN | apply below_drew1) | exact HB.out)⟩

/-- THE ONE PURE STATEMENT of customslaw04_CalendarMonthsMonotone: yours. -/
def customslaw04_CalendarMonthsMonotone.Pure : Prop := ∀ (a0 : Int) (a1 : Int) (a2 : Int) (a3 : Int), (Lit.int .i64 a0).wf = true → (Lit.int .i64 a1).wf = true → (Lit.int .i64 a2).wf = true → (Lit.int .i64 a3).wf = true → ∃ k, customslaw04_CalendarMonthsMonotone.f k a0 a1 a2 a3 = some true
theorem customslaw04_CalendarMonthsMonotone.walk (P : customslaw04_CalendarMonthsMonotone.Pure) (a0 : Int) (a1 : Int) (a2 : Int) (a3 : Int) (w : World) (hG_lengths : GL_lengths w) (w0 : (Lit.int .i64 a0).wf = true) (w1 : (Lit.int .i64 a1).wf = true) (w2 : (Lit.int .i64 a2).wf = true) (w3 : (Lit.int .i64 a3).wf = true) :
  Calls Tryd.prog 7 #[.int .i64 a0, .int .i64 a1, .int .i64 a2, .int .i64 a3] w fun e w' => e = .returned (.bool true) ∧ Below w.heap.size w w' := by
 obtain ⟨k, h⟩ := P a0 a1 a2 a3 w0 w1 w2 w3
 refine (customslaw04_CalendarMonthsMonotone.calls k a0 a1 a2 a3 true w hG_lengths h).mono ?_
 rintro e w' ⟨rfl, hd⟩
 exact ⟨rfl, hd⟩

end Go.Proofs.YtlmcejiebobfbaaDoor.G

