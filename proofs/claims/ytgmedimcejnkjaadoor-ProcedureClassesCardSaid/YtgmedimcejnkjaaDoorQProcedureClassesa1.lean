/-
  Functions of the program and of the references as plain Lean functions, each with a proof that the machine's call comes to what it answers. Conditions: what each contract states.
-/
import Derived.Test.YtgmedimcejnkjaaDoorQCorew1
import Derived.Test.YtgmedimcejnkjaaDoorQCorea1
namespace Go.Proofs.YtgmedimcejnkjaaDoor.G
open Go.RowKit Go.Proofs.YtgmedimcejnkjaaDoorW.PrintWords Go.Proofs.YtgmedimcejnkjaaDoorW.PrintLast Go.Proofs.YtgmedimcejnkjaaDoorW.PrintMore
attribute [local go_sem] max2_int min2_int max_two min_two max_three min_three max_four min_four   -- for this text's walks alone
set_option linter.unusedVariables false
set_option linter.unusedSimpArgs false

def customslaw24_ProcedureClasses.j0 : Nat → Int → Int → Int → Bool → Option (Bool)
 | 0, _, _, _, _ => none
 | k + 1, x5, x6, x7, x35 => if x35 = true then (if x6 = 17 then ((customslaw24_awake.f k).bind fun t167 => (some t167)) else (some false)) else (if x6 = 0 then (if x7 = 2 then ((procedure_Class.f k x5).bind fun t168 => (if t168 = 2 then ((procedure_Class.f k x5).bind fun t169 => (if t169 = 0 then (some false) else ((customslaw24_awake.f k).bind fun t170 => (some t170)))) else (some false))) else ((procedure_Class.f k x5).bind fun t171 => (if t171 = 0 then (some false) else ((customslaw24_awake.f k).bind fun t172 => (some t172))))) else (if x6 = 17 then ((customslaw24_awake.f k).bind fun t173 => (some t173)) else (some false)))
def customslaw24_ProcedureClasses.f (k : Nat) (a0 : Int) (a1 : Int) : Option (Bool) := (customsmade_Within.f a0 13).bind fun t162 => ((customsmade_Within.f a1 14).bind fun t163 => ((procedure_Next.f k (wrap64 (1 + t162)) (wrap64 (1 + t163))).bind fun bt164 => ((procedure_Class.f k (wrap64 (1 + t162))).bind fun t166 => (if t166 = 3 then (customslaw24_ProcedureClasses.j0 k bt164.1 bt164.2 t166 true) else (if t166 = 4 then (customslaw24_ProcedureClasses.j0 k bt164.1 bt164.2 t166 true) else (if (wrap64 (1 + t162)) = 9 then (customslaw24_ProcedureClasses.j0 k bt164.1 bt164.2 t166 true) else (customslaw24_ProcedureClasses.j0 k bt164.1 bt164.2 t166 ((wrap64 (1 + t162)) == 12))))))))
set_option maxHeartbeats 8000000 in
set_option maxRecDepth 100000 in
theorem customslaw24_ProcedureClasses.calls (k : Nat) (a0 : Int) (a1 : Int) (r : Bool) (w : World) (hG_transitions : GL_transitions w) (h : customslaw24_ProcedureClasses.f k a0 a1 = some r) :
  Calls Tryd.prog 5 #[.int .i64 a0, .int .i64 a1] w fun e w' => e = .returned (.bool r) ∧ Below w.heap.size w w' := by
 have HG_transitions := Aside0.mk hG_transitions
 clear hG_transitions
 have HB := Aside0.mk (Below.refl w.heap.size w)
 have H : ((customsmade_Within.f a0 13).bind fun t162 => ((customsmade_Within.f a1 14).bind fun t163 => ((procedure_Next.f k (wrap64 (1 + t162)) (wrap64 (1 + t163))).bind fun bt164 => ((procedure_Class.f k (wrap64 (1 + t162))).bind fun t166 => (if t166 = 3 then (customslaw24_ProcedureClasses.j0 k bt164.1 bt164.2 t166 true) else (if t166 = 4 then (customslaw24_ProcedureClasses.j0 k bt164.1 bt164.2 t166 true) else (if (wrap64 (1 + t162)) = 9 then (customslaw24_ProcedureClasses.j0 k bt164.1 bt164.2 t166 true) else (customslaw24_ProcedureClasses.j0 k bt164.1 bt164.2 t166 ((wrap64 (1 + t162)) == 12))))))))) = some r := h
 clear h
 replace H := Option.bind_eq_some_iff.mp H
 obtain ⟨t162, A30, H⟩ := H
 replace H : ((customsmade_Within.f a1 14).bind fun t163 => ((procedure_Next.f k (wrap64 (1 + t162)) (wrap64 (1 + t163))).bind fun bt164 => ((procedure_Class.f k (wrap64 (1 + t162))).bind fun t166 => (if t166 = 3 then (customslaw24_ProcedureClasses.j0 k bt164.1 bt164.2 t166 true) else (if t166 = 4 then (customslaw24_ProcedureClasses.j0 k bt164.1 bt164.2 t166 true) else (if (wrap64 (1 + t162)) = 9 then (customslaw24_ProcedureClasses.j0 k bt164.1 bt164.2 t166 true) else (customslaw24_ProcedureClasses.j0 k bt164.1 bt164.2 t166 ((wrap64 (1 + t162)) == 12)))))))) = some r := H
 have A3 := Aside0.mk A30
 clear A30
 replace H := Option.bind_eq_some_iff.mp H
 obtain ⟨t163, A40, H⟩ := H
 replace H : ((procedure_Next.f k (wrap64 (1 + t162)) (wrap64 (1 + t163))).bind fun bt164 => ((procedure_Class.f k (wrap64 (1 + t162))).bind fun t166 => (if t166 = 3 then (customslaw24_ProcedureClasses.j0 k bt164.1 bt164.2 t166 true) else (if t166 = 4 then (customslaw24_ProcedureClasses.j0 k bt164.1 bt164.2 t166 true) else (if (wrap64 (1 + t162)) = 9 then (customslaw24_ProcedureClasses.j0 k bt164.1 bt164.2 t166 true) else (customslaw24_ProcedureClasses.j0 k bt164.1 bt164.2 t166 ((wrap64 (1 + t162)) == 12))))))) = some r := H
 have A4 := Aside0.mk A40
 clear A40
 replace H := Option.bind_eq_some_iff.mp H
 obtain ⟨⟨t164, t165⟩, A50, H⟩ := H
 replace H : ((procedure_Class.f k (wrap64 (1 + t162))).bind fun t166 => (if t166 = 3 then (customslaw24_ProcedureClasses.j0 k t164 t165 t166 true) else (if t166 = 4 then (customslaw24_ProcedureClasses.j0 k t164 t165 t166 true) else (if (wrap64 (1 + t162)) = 9 then (customslaw24_ProcedureClasses.j0 k t164 t165 t166 true) else (customslaw24_ProcedureClasses.j0 k t164 t165 t166 ((wrap64 (1 + t162)) == 12)))))) = some r := H
 have A5 := Aside0.mk A50
 clear A50
 replace H := Option.bind_eq_some_iff.mp H
 obtain ⟨t166, A60, H⟩ := H
 replace H : (if t166 = 3 then (customslaw24_ProcedureClasses.j0 k t164 t165 t166 true) else (if t166 = 4 then (customslaw24_ProcedureClasses.j0 k t164 t165 t166 true) else (if (wrap64 (1 + t162)) = 9 then (customslaw24_ProcedureClasses.j0 k t164 t165 t166 true) else (customslaw24_ProcedureClasses.j0 k t164 t165 t166 ((wrap64 (1 + t162)) == 12))))) = some r := H
 have A6 := Aside0.mk A60
 clear A60
 have HC7 := Aside0.mk H
 clear H
 go_enter Tryd.func5, Tryd.ntmps5
 go_upto_region 4 with (first | ((with_reducible refine gate_callee (f := 9) rfl ?_); refine goesL_ (some 9) rfl rfl Tryd.func9 (by kernel_rfl) rfl #[.int .i64 a0, .int .i64 13] rfl (by (try simp only [List.map_toArray, List.map_cons, List.map_nil]); first | done | rfl | (simp only [List.length_drop, List.length_take]; rfl)) ?_; (with_reducible refine (customsmade_Within.calls a0 13 t162 _ A3.out).mono ?_); rintro e w' ⟨rfl, ⟨nd, rfl⟩⟩; refine ⟨_, rfl, ?_⟩) | ((with_reducible refine gate_callee (f := 9) rfl ?_); refine goesL_ (some 12) rfl rfl Tryd.func9 (by kernel_rfl) rfl #[.int .i64 a1, .int .i64 14] rfl (by (try simp only [List.map_toArray, List.map_cons, List.map_nil]); first | done | rfl | (simp only [List.length_drop, List.length_take]; rfl)) ?_; (with_reducible refine (customsmade_Within.calls a1 14 t163 _ A4.out).mono ?_); rintro e w' ⟨rfl, ⟨nd, rfl⟩⟩; refine ⟨_, rfl, ?_⟩) | ((with_reducible refine gate_callee (f := 10) rfl ?_); refine goesL_ (some 17) rfl rfl Tryd.func10 (by kernel_rfl) rfl #[.int .i64 (wrap64 (1 + t162)), .int .i64 (wrap64 (1 + t163))] rfl (by (try simp only [List.map_toArray, List.map_cons, List.map_nil]); first | done | rfl | (simp only [List.length_drop, List.length_take]; rfl)) ?_; (with_reducible refine (procedure_Next.calls k (wrap64 (1 + t162)) (wrap64 (1 + t163)) t164 t165 _ ?side1 A5.out).mono ?_); (case side1 => exact GL_transitions.of_below (by repeat (first | (with_reducible first | exact HB.out | apply below_alloc | apply pw_below_drewN | apply below_drew1) | exact HB.out)) HG_transitions.out); rintro e w8 ⟨rfl, hb⟩; refine ⟨_, rfl, ?_⟩; have n0_ := Aside0.mk (below_step (by repeat (first | (with_reducible first | exact HB.out | apply below_alloc | apply pw_below_drewN | apply below_drew1) | exact HB.out)) hb); clear HB; have HB := n0_; clear n0_; (try clear hb); (try clear hb2); (try clear hk); (try clear hi)) | ((with_reducible refine gate_callee (f := 12) rfl ?_); refine goesL_ (some 21) rfl rfl Tryd.func12 (by kernel_rfl) rfl #[.int .i64 (wrap64 (1 + t162))] rfl (by (try simp only [List.map_toArray, List.map_cons, List.map_nil]); first | done | rfl | (simp only [List.length_drop, List.length_take]; rfl)) ?_; (with_reducible refine (procedure_Class.calls k (wrap64 (1 + t162)) t166 _ A6.out).mono ?_); rintro e w' ⟨rfl, ⟨nd, rfl⟩⟩; refine ⟨_, rfl, ?_⟩))
 (try simp only [Act.put, List.setIfInBounds_toArray, List.set_cons_zero, List.set_cons_succ])
 go_cut [35] (fun v35 wc => ∃ (kq : Nat) (x35_6 : Bool), v35 = .bool x35_6 ∧ Aside0 (customslaw24_ProcedureClasses.j0 kq t164 t165 t166 x35_6 = some r) ∧ Aside0 (kq ≤ k) ∧ Aside0 (Below w.heap.size w wc))
 case first =>
  have H := HC7.out
  clear HC7
  by_cases c9 : t166 = 3
  ·
   rw [if_pos c9] at H
   have c9b0 : (t166 == 3) = true := beq_iff_eq.mpr c9
   have c9b1 : (t166 != 3) = false := bne_eq_false_iff_eq.mpr c9
   clear c9
   (first | rw [c9b0] | (simp only [i64_w, i32_w]; rw [c9b0]) | skip)
   have H' := Aside0.mk H
   clear H
   go_wp2
   go_meet
   case rel => exact ⟨_, (true), (by first | rfl | (simp; done) | (simp [*]; done)), H', ⟨by first | omega | exact Nat.le_refl _⟩, ⟨by repeat (first | (with_reducible first | exact HB.out | apply below_alloc | apply pw_below_drewN | apply below_drew1) | exact HB.out)⟩⟩
  ·
   rw [if_neg c9] at H
   have c9b0 : (t166 == 3) = false := beq_eq_false_iff_ne.mpr c9
   have c9b1 : (t166 != 3) = true := bne_iff_ne.mpr c9
   (first | rw [c9b0] | (simp only [i64_w, i32_w]; rw [c9b0]) | skip)
   by_cases c10 : t166 = 4
   ·
    rw [if_pos c10] at H
    have c10b0 : (t166 == 4) = true := beq_iff_eq.mpr c10
    have c10b1 : (t166 != 4) = false := bne_eq_false_iff_eq.mpr c10
    clear c10
    have H' := Aside0.mk H
    clear H
    go_wp2
    go_meet
    case rel => exact ⟨_, (true), (by first | rfl | (simp; done) | (simp [*]; done)), H', ⟨by first | omega | exact Nat.le_refl _⟩, ⟨by repeat (first | (with_reducible first | exact HB.out | apply below_alloc | apply pw_below_drewN | apply below_drew1) | exact HB.out)⟩⟩
   ·
    rw [if_neg c10] at H
    have c10b0 : (t166 == 4) = false := beq_eq_false_iff_ne.mpr c10
    have c10b1 : (t166 != 4) = true := bne_iff_ne.mpr c10
    by_cases c11 : (wrap64 (1 + t162)) = 9
    ·
     rw [if_pos c11] at H
     have c11b0 : ((wrap64 (1 + t162)) == 9) = true := beq_iff_eq.mpr c11
     have c11b1 : ((wrap64 (1 + t162)) != 9) = false := bne_eq_false_iff_eq.mpr c11
     clear c11
     have H' := Aside0.mk H
     clear H
     go_wp2
     go_meet
     case rel => exact ⟨_, (true), (by first | rfl | (simp; done) | (simp [*]; done)), H', ⟨by first | omega | exact Nat.le_refl _⟩, ⟨by repeat (first | (with_reducible first | exact HB.out | apply below_alloc | apply pw_below_drewN | apply below_drew1) | exact HB.out)⟩⟩
    ·
     rw [if_neg c11] at H
     have c11b0 : ((wrap64 (1 + t162)) == 9) = false := beq_eq_false_iff_ne.mpr c11
     have c11b1 : ((wrap64 (1 + t162)) != 9) = true := bne_iff_ne.mpr c11
     have H' := Aside0.mk H
     clear H
     go_wp2
     go_meet
     case rel => exact ⟨_, (((wrap64 (1 + t162)) == 12)), (by first | rfl | (simp; done) | (simp [*]; done)), H', ⟨by first | omega | exact Nat.le_refl _⟩, ⟨by repeat (first | (with_reducible first | exact HB.out | apply below_alloc | apply pw_below_drewN | apply below_drew1) | exact HB.out)⟩⟩
 case rest =>
  clear HC7
  try clear c1
  try clear p2
  try clear c5
  try clear p6
  try clear c9
  try clear c9b0
  try clear c9b1
  try clear c10
  try clear c10b0
  try clear c10b1
  try clear c11
  try clear c11b0
  try clear c11b1
  obtain ⟨kq, x35_6, rfl, HA, HJ6, HB⟩ := hcut
  cases kq with
  | zero => exact absurd HA.out (by simp [customslaw24_ProcedureClasses.j0])
  | succ kj6 =>
   have H := HA.out
   clear HA
   simp only [customslaw24_ProcedureClasses.j0] at H
   by_cases c12 : x35_6 = true
   ·
    subst c12
    have H1 : (if t165 = 17 then ((customslaw24_awake.f kj6).bind fun t167 => (some t167)) else (some false)) = some r := by rw [if_pos rfl] at H; exact H
    clear H
    have H := H1
    clear H1
    by_cases c13 : t165 = 17
    ·
     rw [if_pos c13] at H
     have c13b0 : (t165 == 17) = true := beq_iff_eq.mpr c13
     have c13b1 : (t165 != 17) = false := bne_eq_false_iff_eq.mpr c13
     clear c13
     replace H := Option.bind_eq_some_iff.mp H
     obtain ⟨t167, A140, H⟩ := H
     replace H : (some t167) = some r := H
     have A14 := Aside0.mk A140
     clear A140
     obtain rfl := Option.some.inj H
     go_wp2_with (first | (go_at_call 14; (with_reducible refine (customslaw24_awake.calls kj6  t167 _ ?side1 A14.out).mono ?_); (case side1 => exact GL_transitions.of_below (by repeat (first | (with_reducible first | exact HB.out | apply below_alloc | apply pw_below_drewN | apply below_drew1) | exact HB.out)) HG_transitions.out); rintro e w15 ⟨rfl, hb⟩; have n0_ := Aside0.mk (below_step (by repeat (first | (with_reducible first | exact HB.out | apply below_alloc | apply pw_below_drewN | apply below_drew1) | exact HB.out)) hb); clear HB; have HB := n0_; clear n0_; (try clear hb); (try clear hb2); (try clear hk); (try clear hi)))
     go_ret
     exact ⟨by first | rfl | (simp [errW_none, errW_some] <;> rfl) | (simp [*, errW_none, errW_some] <;> rfl), by repeat (first | (with_reducible first | exact HB.out | apply below_alloc | apply pw_below_drewN | apply below_drew1) | exact HB.out)⟩
    ·
     rw [if_neg c13] at H
     have c13b0 : (t165 == 17) = false := beq_eq_false_iff_ne.mpr c13
     have c13b1 : (t165 != 17) = true := bne_iff_ne.mpr c13
     obtain rfl := Option.some.inj H
     go_wp2
     go_ret
     exact ⟨by first | rfl | (simp [errW_none, errW_some] <;> rfl) | (simp [*, errW_none, errW_some] <;> rfl), by repeat (first | (with_reducible first | exact HB.out | apply below_alloc | apply pw_below_drewN | apply below_drew1) | exact HB.out)⟩
   ·
    replace c12 := Bool.eq_false_iff.mpr c12
    subst c12
    have H1 : (if t165 = 0 then (if t166 = 2 then ((procedure_Class.f kj6 t164).bind fun t168 => (if t168 = 2 then ((procedure_Class.f kj6 t164).bind fun t169 => (if t169 = 0 then (some false) else ((customslaw24_awake.f kj6).bind fun t170 => (some t170)))) else (some false))) else ((procedure_Class.f kj6 t164).bind fun t171 => (if t171 = 0 then (some false) else ((customslaw24_awake.f kj6).bind fun t172 => (some t172))))) else (if t165 = 17 then ((customslaw24_awake.f kj6).bind fun t173 => (some t173)) else (some false))) = some r := by rw [if_neg (show ¬ (false = true) by decide)] at H; exact H
    clear H
    have H := H1
    clear H1
    by_cases c16 : t165 = 0
    ·
     rw [if_pos c16] at H
     have c16b0 : (t165 == 0) = true := beq_iff_eq.mpr c16
     have c16b1 : (t165 != 0) = false := bne_eq_false_iff_eq.mpr c16
     clear c16
     by_cases c17 : t166 = 2
     ·
      rw [if_pos c17] at H
      have c17b0 : (t166 == 2) = true := beq_iff_eq.mpr c17
      have c17b1 : (t166 != 2) = false := bne_eq_false_iff_eq.mpr c17
      clear c17
      replace H := Option.bind_eq_some_iff.mp H
      obtain ⟨t168, A180, H⟩ := H
      replace H : (if t168 = 2 then ((procedure_Class.f kj6 t164).bind fun t169 => (if t169 = 0 then (some false) else ((customslaw24_awake.f kj6).bind fun t170 => (some t170)))) else (some false)) = some r := H
      have A18 := Aside0.mk A180
      clear A180
      by_cases c19 : t168 = 2
      ·
       rw [if_pos c19] at H
       have c19b0 : (t168 == 2) = true := beq_iff_eq.mpr c19
       have c19b1 : (t168 != 2) = false := bne_eq_false_iff_eq.mpr c19
       clear c19
       replace H := Option.bind_eq_some_iff.mp H
       obtain ⟨t169, A200, H⟩ := H
       replace H : (if t169 = 0 then (some false) else ((customslaw24_awake.f kj6).bind fun t170 => (some t170))) = some r := H
       have A20 := Aside0.mk A200
       clear A200
       by_cases c21 : t169 = 0
       ·
        rw [if_pos c21] at H
        have c21b0 : (t169 == 0) = true := beq_iff_eq.mpr c21
        have c21b1 : (t169 != 0) = false := bne_eq_false_iff_eq.mpr c21
        clear c21
        obtain rfl := Option.some.inj H
        go_wp2_with (first | (go_at_call 12; (with_reducible refine (procedure_Class.calls kj6 t164 t168 _ A18.out).mono ?_); rintro e w' ⟨rfl, ⟨nd, rfl⟩⟩; clear A18) | (go_at_call 12; (with_reducible refine (procedure_Class.calls kj6 t164 t169 _ A20.out).mono ?_); rintro e w' ⟨rfl, ⟨nd, rfl⟩⟩))
        go_ret
        exact ⟨by first | rfl | (simp [errW_none, errW_some] <;> rfl) | (simp [*, errW_none, errW_some] <;> rfl), by repeat (first | (with_reducible first | exact HB.out | apply below_alloc | apply pw_below_drewN | apply below_drew1) | exact HB.out)⟩
       ·
        rw [if_neg c21] at H
        have c21b0 : (t169 == 0) = false := beq_eq_false_iff_ne.mpr c21
        have c21b1 : (t169 != 0) = true := bne_iff_ne.mpr c21
        replace H := Option.bind_eq_some_iff.mp H
        obtain ⟨t170, A220, H⟩ := H
        replace H : (some t170) = some r := H
        have A22 := Aside0.mk A220
        clear A220
        obtain rfl := Option.some.inj H
        go_wp2_with (first | (go_at_call 12; (with_reducible refine (procedure_Class.calls kj6 t164 t168 _ A18.out).mono ?_); rintro e w' ⟨rfl, ⟨nd, rfl⟩⟩; clear A18) | (go_at_call 12; (with_reducible refine (procedure_Class.calls kj6 t164 t169 _ A20.out).mono ?_); rintro e w' ⟨rfl, ⟨nd, rfl⟩⟩) | (go_at_call 14; (with_reducible refine (customslaw24_awake.calls kj6  t170 _ ?side1 A22.out).mono ?_); (case side1 => exact GL_transitions.of_below (by repeat (first | (with_reducible first | exact HB.out | apply below_alloc | apply pw_below_drewN | apply below_drew1) | exact HB.out)) HG_transitions.out); rintro e w23 ⟨rfl, hb⟩; have n0_ := Aside0.mk (below_step (by repeat (first | (with_reducible first | exact HB.out | apply below_alloc | apply pw_below_drewN | apply below_drew1) | exact HB.out)) hb); clear HB; have HB := n0_; clear n0_; (try clear hb); (try clear hb2); (try clear hk); (try clear hi)))
        go_ret
        exact ⟨by first | rfl | (simp [errW_none, errW_some] <;> rfl) | (simp [*, errW_none, errW_some] <;> rfl), by repeat (first | (with_reducible first | exact HB.out | apply below_alloc | apply pw_below_drewN | apply below_drew1) | exact HB.out)⟩
      ·
       rw [if_neg c19] at H
       have c19b0 : (t168 == 2) = false := beq_eq_false_iff_ne.mpr c19
       have c19b1 : (t168 != 2) = true := bne_iff_ne.mpr c19
       obtain rfl := Option.some.inj H
       go_wp2_with (first | (go_at_call 12; (with_reducible refine (procedure_Class.calls kj6 t164 t168 _ A18.out).mono ?_); rintro e w' ⟨rfl, ⟨nd, rfl⟩⟩))
       go_ret
       exact ⟨by first | rfl | (simp [errW_none, errW_some] <;> rfl) | (simp [*, errW_none, errW_some] <;> rfl), by repeat (first | (with_reducible first | exact HB.out | apply below_alloc | apply pw_below_drewN | apply below_drew1) | exact HB.out)⟩
     ·
      rw [if_neg c17] at H
      have c17b0 : (t166 == 2) = false := beq_eq_false_iff_ne.mpr c17
      have c17b1 : (t166 != 2) = true := bne_iff_ne.mpr c17
      replace H := Option.bind_eq_some_iff.mp H
      obtain ⟨t171, A240, H⟩ := H
      replace H : (if t171 = 0 then (some false) else ((customslaw24_awake.f kj6).bind fun t172 => (some t172))) = some r := H
      have A24 := Aside0.mk A240
      clear A240
      by_cases c25 : t171 = 0
      ·
       rw [if_pos c25] at H
       have c25b0 : (t171 == 0) = true := beq_iff_eq.mpr c25
       have c25b1 : (t171 != 0) = false := bne_eq_false_iff_eq.mpr c25
       clear c25
       obtain rfl := Option.some.inj H
       go_wp2_with (first | (go_at_call 12; (with_reducible refine (procedure_Class.calls kj6 t164 t171 _ A24.out).mono ?_); rintro e w' ⟨rfl, ⟨nd, rfl⟩⟩))
       go_ret
       exact ⟨by first | rfl | (simp [errW_none, errW_some] <;> rfl) | (simp [*, errW_none, errW_some] <;> rfl), by repeat (first | (with_reducible first | exact HB.out | apply below_alloc | apply pw_below_drewN | apply below_drew1) | exact HB.out)⟩
      ·
       rw [if_neg c25] at H
       have c25b0 : (t171 == 0) = false := beq_eq_false_iff_ne.mpr c25
       have c25b1 : (t171 != 0) = true := bne_iff_ne.mpr c25
       replace H := Option.bind_eq_some_iff.mp H
       obtain ⟨t172, A260, H⟩ := H
       replace H : (some t172) = some r := H
       have A26 := Aside0.mk A260
       clear A260
       obtain rfl := Option.some.inj H
       go_wp2_with (first | (go_at_call 12; (with_reducible refine (procedure_Class.calls kj6 t164 t171 _ A24.out).mono ?_); rintro e w' ⟨rfl, ⟨nd, rfl⟩⟩) | (go_at_call 14; (with_reducible refine (customslaw24_awake.calls kj6  t172 _ ?side1 A26.out).mono ?_); (case side1 => exact GL_transitions.of_below (by repeat (first | (with_reducible first | exact HB.out | apply below_alloc | apply pw_below_drewN | apply below_drew1) | exact HB.out)) HG_transitions.out); rintro e w27 ⟨rfl, hb⟩; have n0_ := Aside0.mk (below_step (by repeat (first | (with_reducible first | exact HB.out | apply below_alloc | apply pw_below_drewN | apply below_drew1) | exact HB.out)) hb); clear HB; have HB := n0_; clear n0_; (try clear hb); (try clear hb2); (try clear hk); (try clear hi)))
       go_ret
       exact ⟨by first | rfl | (simp [errW_none, errW_some] <;> rfl) | (simp [*, errW_none, errW_some] <;> rfl), by repeat (first | (with_reducible first | exact HB.out | apply below_alloc | apply pw_below_drewN | apply below_drew1) | exact HB.out)⟩
    ·
     rw [if_neg c16] at H
     have c16b0 : (t165 == 0) = false := beq_eq_false_iff_ne.mpr c16
     have c16b1 : (t165 != 0) = true := bne_iff_ne.mpr c16
     by_cases c28 : t165 = 17
     ·
      rw [if_pos c28] at H
      have c28b0 : (t165 == 17) = true := beq_iff_eq.mpr c28
      have c28b1 : (t165 != 17) = false := bne_eq_false_iff_eq.mpr c28
      clear c28
      replace H := Option.bind_eq_some_iff.mp H
      obtain ⟨t173, A290, H⟩ := H
      replace H : (some t173) = some r := H
      have A29 := Aside0.mk A290
      clear A290
      obtain rfl := Option.some.inj H
      go_wp2_with (first | (go_at_call 14; (with_reducible refine (customslaw24_awake.calls kj6  t173 _ ?side1 A29.out).mono ?_); (case side1 => exact GL_transitions.of_below (by repeat (first | (with_reducible first | exact HB.out | apply below_alloc | apply pw_below_drewN | apply below_drew1) | exact HB.out)) HG_transitions.out); rintro e w30 ⟨rfl, hb⟩; have n0_ := Aside0.mk (below_step (by repeat (first | (with_reducible first | exact HB.out | apply below_alloc | apply pw_below_drewN | apply below_drew1) | exact HB.out)) hb); clear HB; have HB := n0_; clear n0_; (try clear hb); (try clear hb2); (try clear hk); (try clear hi)))
      go_ret
      exact ⟨by first | rfl | (simp [errW_none, errW_some] <;> rfl) | (simp [*, errW_none, errW_some] <;> rfl), by repeat (first | (with_reducible first | exact HB.out | apply below_alloc | apply pw_below_drewN | apply below_drew1) | exact HB.out)⟩
     ·
      rw [if_neg c28] at H
      have c28b0 : (t165 == 17) = false := beq_eq_false_iff_ne.mpr c28
      have c28b1 : (t165 != 17) = true := bne_iff_ne.mpr c28
      obtain rfl := Option.some.inj H
      go_wp2
      go_ret
      exact ⟨by first | rfl | (simp [errW_none, errW_some] <;> rfl) | (simp [*, errW_none, errW_some] <;> rfl), by repeat (first | (with_reducible first | exact HB.out | apply below_alloc | apply pw_below_drewN | apply below_drew1) | exact HB.out)⟩

/-- THE ONE PURE STATEMENT of customslaw24_ProcedureClasses: yours. -/
def customslaw24_ProcedureClasses.Pure : Prop := ∀ (a0 : Int) (a1 : Int), (Lit.int .i64 a0).wf = true → (Lit.int .i64 a1).wf = true → ∃ k, customslaw24_ProcedureClasses.f k a0 a1 = some true
theorem customslaw24_ProcedureClasses.walk (P : customslaw24_ProcedureClasses.Pure) (a0 : Int) (a1 : Int) (w : World) (hG_transitions : GL_transitions w) (w0 : (Lit.int .i64 a0).wf = true) (w1 : (Lit.int .i64 a1).wf = true) :
  Calls Tryd.prog 5 #[.int .i64 a0, .int .i64 a1] w fun e w' => e = .returned (.bool true) ∧ Below w.heap.size w w' := by
 obtain ⟨k, h⟩ := P a0 a1 w0 w1
 refine (customslaw24_ProcedureClasses.calls k a0 a1 true w hG_transitions h).mono ?_
 rintro e w' ⟨rfl, hd⟩
 exact ⟨rfl, hd⟩

end Go.Proofs.YtgmedimcejnkjaaDoor.G

