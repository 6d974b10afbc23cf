/-
  Functions of the program and of the references as plain Lean functions, each with a proof that the machine's call comes to what it answers. Conditions: what each contract states.
-/
import Derived.Test.YtgmedimcejnkjaaDoorQCorew1
import Derived.Test.YtgmedimcejnkjaaDoorQCorea1
namespace Go.Proofs.YtgmedimcejnkjaaDoor.G
open Go.RowKit Go.Proofs.YtgmedimcejnkjaaDoorW.PrintWords Go.Proofs.YtgmedimcejnkjaaDoorW.PrintLast Go.Proofs.YtgmedimcejnkjaaDoorW.PrintMore
attribute [local go_sem] max2_int min2_int max_two min_two max_three min_three max_four min_four   -- for this text's walks alone
set_option linter.unusedVariables false
set_option linter.unusedSimpArgs false

def customslaw24_ProcedureNext.j0 : Nat → Int → Int → Option (Bool)
 | 0, _, _ => none
 | k + 1, x0, x1 => (procedure_Next.f k x0 x1).bind fun bt113 => ((customsref24_Next.f k x0 x1).bind fun bt115 => (if bt113.1 = bt115.1 then (if bt113.2 = bt115.2 then ((procedure_Class.f k x0).bind fun t117 => ((customsref24_Class.f k x0).bind fun t118 => (if t117 = t118 then ((customslaw24_awake.f k).bind fun t119 => (some t119)) else (some false)))) else (some false)) else (some false)))
def customslaw24_ProcedureNext.f (k : Nat) (a0 : Int) (a1 : Int) (a2 : Bool) : Option (Bool) := if a2 = true then (customslaw24_ProcedureNext.j0 k a0 a1) else ((customsmade_Within.f a0 14).bind fun t111 => ((customsmade_Within.f a1 16).bind fun t112 => (customslaw24_ProcedureNext.j0 k t111 t112)))
set_option maxHeartbeats 8000000 in
set_option maxRecDepth 100000 in
theorem customslaw24_ProcedureNext.calls (k : Nat) (a0 : Int) (a1 : Int) (a2 : Bool) (r : Bool) (w : World) (hG_transitions : GL_transitions w) (h : customslaw24_ProcedureNext.f k a0 a1 a2 = some r) :
  Calls Tryd.prog 3 #[.int .i64 a0, .int .i64 a1, .bool a2] w fun e w' => e = .returned (.bool r) ∧ Below w.heap.size w w' := by
 have HG_transitions := Aside0.mk hG_transitions
 clear hG_transitions
 have HB := Aside0.mk (Below.refl w.heap.size w)
 have H : (if a2 = true then (customslaw24_ProcedureNext.j0 k a0 a1) else ((customsmade_Within.f a0 14).bind fun t111 => ((customsmade_Within.f a1 16).bind fun t112 => (customslaw24_ProcedureNext.j0 k t111 t112)))) = some r := h
 clear h
 have HC4 := Aside0.mk H
 clear H
 go_enter Tryd.func3, Tryd.ntmps3
 go_upto_if 12 with (fail)
 go_cut [0, 1] (fun v0 v1 wc => ∃ (kq : Nat) (x0_3 : Int) (x1_3 : Int), v0 = .int .i64 x0_3 ∧ v1 = .int .i64 x1_3 ∧ Aside0 (customslaw24_ProcedureNext.j0 kq x0_3 x1_3 = some r) ∧ Aside0 (kq ≤ k) ∧ Aside0 (Below w.heap.size w wc))
 case first =>
  have H := HC4.out
  clear HC4
  by_cases c5 : a2 = true
  ·
   subst c5
   have H1 : (customslaw24_ProcedureNext.j0 k a0 a1) = some r := by rw [if_pos rfl] at H; exact H
   clear H
   have H := H1
   clear H1
   have H' := Aside0.mk H
   clear H
   go_wp2
   go_meet
   case rel => exact ⟨_, (a0), (a1), (by first | rfl | (simp; done) | (simp [*]; done)), (by first | rfl | (simp; done) | (simp [*]; done)), H', ⟨by first | omega | exact Nat.le_refl _⟩, ⟨by repeat (first | (with_reducible first | exact HB.out | apply below_alloc | apply pw_below_drewN | apply below_drew1) | exact HB.out)⟩⟩
  ·
   replace c5 := Bool.eq_false_iff.mpr c5
   subst c5
   have H1 : ((customsmade_Within.f a0 14).bind fun t111 => ((customsmade_Within.f a1 16).bind fun t112 => (customslaw24_ProcedureNext.j0 k t111 t112))) = some r := by rw [if_neg (show ¬ (false = true) by decide)] at H; exact H
   clear H
   have H := H1
   clear H1
   replace H := Option.bind_eq_some_iff.mp H
   obtain ⟨t111, A60, H⟩ := H
   replace H : ((customsmade_Within.f a1 16).bind fun t112 => (customslaw24_ProcedureNext.j0 k t111 t112)) = some r := H
   have A6 := Aside0.mk A60
   clear A60
   replace H := Option.bind_eq_some_iff.mp H
   obtain ⟨t112, A70, H⟩ := H
   replace H : (customslaw24_ProcedureNext.j0 k t111 t112) = some r := H
   have A7 := Aside0.mk A70
   clear A70
   have H' := Aside0.mk H
   clear H
   go_wp2_with (first | ((with_reducible refine gate_callee (f := 9) rfl ?_); refine goesL_ (some 14) rfl rfl Tryd.func9 (by kernel_rfl) rfl #[.int .i64 a0, .int .i64 14] rfl (by (try simp only [List.map_toArray, List.map_cons, List.map_nil]); first | done | rfl | (simp only [List.length_drop, List.length_take]; rfl)) ?_; (with_reducible refine (customsmade_Within.calls a0 14 t111 _ A6.out).mono ?_); rintro e w' ⟨rfl, ⟨nd, rfl⟩⟩; refine ⟨_, rfl, ?_⟩) | ((with_reducible refine gate_callee (f := 9) rfl ?_); refine goesL_ (some 16) rfl rfl Tryd.func9 (by kernel_rfl) rfl #[.int .i64 a1, .int .i64 16] rfl (by (try simp only [List.map_toArray, List.map_cons, List.map_nil]); first | done | rfl | (simp only [List.length_drop, List.length_take]; rfl)) ?_; (with_reducible refine (customsmade_Within.calls a1 16 t112 _ A7.out).mono ?_); rintro e w' ⟨rfl, ⟨nd, rfl⟩⟩; refine ⟨_, rfl, ?_⟩))
   go_meet
   case rel => exact ⟨_, (t111), (t112), (by first | rfl | (simp; done) | (simp [*]; done)), (by first | rfl | (simp; done) | (simp [*]; done)), H', ⟨by first | omega | exact Nat.le_refl _⟩, ⟨by repeat (first | (with_reducible first | exact HB.out | apply below_alloc | apply pw_below_drewN | apply below_drew1) | exact HB.out)⟩⟩
 case rest =>
  clear HC4
  try clear p2
  try clear c3
  try clear c5
  obtain ⟨kq, x0_3, x1_3, rfl, rfl, HA, HJ3, HB⟩ := hcut
  cases kq with
  | zero => exact absurd HA.out (by simp [customslaw24_ProcedureNext.j0])
  | succ kj3 =>
   have H := HA.out
   clear HA
   simp only [customslaw24_ProcedureNext.j0] at H
   replace H := Option.bind_eq_some_iff.mp H
   obtain ⟨⟨t113, t114⟩, A80, H⟩ := H
   replace H : ((customsref24_Next.f kj3 x0_3 x1_3).bind fun bt115 => (if t113 = bt115.1 then (if t114 = bt115.2 then ((procedure_Class.f kj3 x0_3).bind fun t117 => ((customsref24_Class.f kj3 x0_3).bind fun t118 => (if t117 = t118 then ((customslaw24_awake.f kj3).bind fun t119 => (some t119)) else (some false)))) else (some false)) else (some false))) = some r := H
   have A8 := Aside0.mk A80
   clear A80
   replace H := Option.bind_eq_some_iff.mp H
   obtain ⟨⟨t115, t116⟩, A90, H⟩ := H
   replace H : (if t113 = t115 then (if t114 = t116 then ((procedure_Class.f kj3 x0_3).bind fun t117 => ((customsref24_Class.f kj3 x0_3).bind fun t118 => (if t117 = t118 then ((customslaw24_awake.f kj3).bind fun t119 => (some t119)) else (some false)))) else (some false)) else (some false)) = some r := H
   have A9 := Aside0.mk A90
   clear A90
   by_cases c10 : t113 = t115
   ·
    rw [if_pos c10] at H
    have c10b0 : (t113 == t115) = true := beq_iff_eq.mpr c10
    have c10b1 : (t113 != t115) = false := bne_eq_false_iff_eq.mpr c10
    clear c10
    by_cases c11 : t114 = t116
    ·
     rw [if_pos c11] at H
     have c11b0 : (t114 == t116) = true := beq_iff_eq.mpr c11
     have c11b1 : (t114 != t116) = false := bne_eq_false_iff_eq.mpr c11
     clear c11
     replace H := Option.bind_eq_some_iff.mp H
     obtain ⟨t117, A120, H⟩ := H
     replace H : ((customsref24_Class.f kj3 x0_3).bind fun t118 => (if t117 = t118 then ((customslaw24_awake.f kj3).bind fun t119 => (some t119)) else (some false))) = some r := H
     have A12 := Aside0.mk A120
     clear A120
     replace H := Option.bind_eq_some_iff.mp H
     obtain ⟨t118, A130, H⟩ := H
     replace H : (if t117 = t118 then ((customslaw24_awake.f kj3).bind fun t119 => (some t119)) else (some false)) = some r := H
     have A13 := Aside0.mk A130
     clear A130
     by_cases c14 : t117 = t118
     ·
      rw [if_pos c14] at H
      have c14b0 : (t117 == t118) = true := beq_iff_eq.mpr c14
      have c14b1 : (t117 != t118) = false := bne_eq_false_iff_eq.mpr c14
      clear c14
      replace H := Option.bind_eq_some_iff.mp H
      obtain ⟨t119, A150, H⟩ := H
      replace H : (some t119) = some r := H
      have A15 := Aside0.mk A150
      clear A150
      obtain rfl := Option.some.inj H
      go_wp2_with (first | ((with_reducible refine gate_callee (f := 10) rfl ?_); refine goesL_ (some 20) rfl rfl Tryd.func10 (by kernel_rfl) rfl #[.int .i64 x0_3, .int .i64 x1_3] rfl (by (try simp only [List.map_toArray, List.map_cons, List.map_nil]); first | done | rfl | (simp only [List.length_drop, List.length_take]; rfl)) ?_; (with_reducible refine (procedure_Next.calls kj3 x0_3 x1_3 t113 t114 _ ?side1 A8.out).mono ?_); (case side1 => exact GL_transitions.of_below (by repeat (first | (with_reducible first | exact HB.out | apply below_alloc | apply pw_below_drewN | apply below_drew1) | exact HB.out)) HG_transitions.out); rintro e w16 ⟨rfl, hb⟩; refine ⟨_, rfl, ?_⟩; have n0_ := Aside0.mk (below_step (by repeat (first | (with_reducible first | exact HB.out | apply below_alloc | apply pw_below_drewN | apply below_drew1) | exact HB.out)) hb); clear HB; have HB := n0_; clear n0_; (try clear hb); (try clear hb2); (try clear hk); (try clear hi)) | ((with_reducible refine gate_callee (f := 11) rfl ?_); refine goesL_ (some 26) rfl rfl Tryd.func11 (by kernel_rfl) rfl #[.int .i64 x0_3, .int .i64 x1_3] rfl (by (try simp only [List.map_toArray, List.map_cons, List.map_nil]); first | done | rfl | (simp only [List.length_drop, List.length_take]; rfl)) ?_; (with_reducible refine (customsref24_Next.calls kj3 x0_3 x1_3 t115 t116 _ A9.out).mono ?_); rintro e w' ⟨rfl, ⟨nd, rfl⟩⟩; refine ⟨_, rfl, ?_⟩) | (go_at_call 12; (with_reducible refine (procedure_Class.calls kj3 x0_3 t117 _ A12.out).mono ?_); rintro e w' ⟨rfl, ⟨nd, rfl⟩⟩) | (go_at_call 13; (with_reducible refine (customsref24_Class.calls kj3 x0_3 t118 _ A13.out).mono ?_); rintro e w' ⟨rfl, ⟨nd, rfl⟩⟩) | (go_at_call 14; (with_reducible refine (customslaw24_awake.calls kj3  t119 _ ?side1 A15.out).mono ?_); (case side1 => exact GL_transitions.of_below (by repeat (first | (with_reducible first | exact HB.out | apply below_alloc | apply pw_below_drewN | apply below_drew1) | exact HB.out)) HG_transitions.out); rintro e w17 ⟨rfl, hb⟩; have n0_ := Aside0.mk (below_step (by repeat (first | (with_reducible first | exact HB.out | apply below_alloc | apply pw_below_drewN | apply below_drew1) | exact HB.out)) hb); clear HB; have HB := n0_; clear n0_; (try clear hb); (try clear hb2); (try clear hk); (try clear hi)))
      go_ret
      exact ⟨by first | rfl | (simp [errW_none, errW_some] <;> rfl) | (simp [*, errW_none, errW_some] <;> rfl), by repeat (first | (with_reducible first | exact HB.out | apply below_alloc | apply pw_below_drewN | apply below_drew1) | exact HB.out)⟩
     ·
      rw [if_neg c14] at H
      have c14b0 : (t117 == t118) = false := beq_eq_false_iff_ne.mpr c14
      have c14b1 : (t117 != t118) = true := bne_iff_ne.mpr c14
      obtain rfl := Option.some.inj H
      go_wp2_with (first | ((with_reducible refine gate_callee (f := 10) rfl ?_); refine goesL_ (some 20) rfl rfl Tryd.func10 (by kernel_rfl) rfl #[.int .i64 x0_3, .int .i64 x1_3] rfl (by (try simp only [List.map_toArray, List.map_cons, List.map_nil]); first | done | rfl | (simp only [List.length_drop, List.length_take]; rfl)) ?_; (with_reducible refine (procedure_Next.calls kj3 x0_3 x1_3 t113 t114 _ ?side1 A8.out).mono ?_); (case side1 => exact GL_transitions.of_below (by repeat (first | (with_reducible first | exact HB.out | apply below_alloc | apply pw_below_drewN | apply below_drew1) | exact HB.out)) HG_transitions.out); rintro e w18 ⟨rfl, hb⟩; refine ⟨_, rfl, ?_⟩; have n0_ := Aside0.mk (below_step (by repeat (first | (with_reducible first | exact HB.out | apply below_alloc | apply pw_below_drewN | apply below_drew1) | exact HB.out)) hb); clear HB; have HB := n0_; clear n0_; (try clear hb); (try clear hb2); (try clear hk); (try clear hi)) | ((with_reducible refine gate_callee (f := 11) rfl ?_); refine goesL_ (some 26) rfl rfl Tryd.func11 (by kernel_rfl) rfl #[.int .i64 x0_3, .int .i64 x1_3] rfl (by (try simp only [List.map_toArray, List.map_cons, List.map_nil]); first | done | rfl | (simp only [List.length_drop, List.length_take]; rfl)) ?_; (with_reducible refine (customsref24_Next.calls kj3 x0_3 x1_3 t115 t116 _ A9.out).mono ?_); rintro e w' ⟨rfl, ⟨nd, rfl⟩⟩; refine ⟨_, rfl, ?_⟩) | (go_at_call 12; (with_reducible refine (procedure_Class.calls kj3 x0_3 t117 _ A12.out).mono ?_); rintro e w' ⟨rfl, ⟨nd, rfl⟩⟩) | (go_at_call 13; (with_reducible refine (customsref24_Class.calls kj3 x0_3 t118 _ A13.out).mono ?_); rintro e w' ⟨rfl, ⟨nd, rfl⟩⟩))
      go_ret
      exact ⟨by first | rfl | (simp [errW_none, errW_some] <;> rfl) | (simp [*, errW_none, errW_some] <;> rfl), by repeat (first | (with_reducible first | exact HB.out | apply below_alloc | apply pw_below_drewN | apply below_drew1) | exact HB.out)⟩
    ·
     rw [if_neg c11] at H
     have c11b0 : (t114 == t116) = false := beq_eq_false_iff_ne.mpr c11
     have c11b1 : (t114 != t116) = true := bne_iff_ne.mpr c11
     obtain rfl := Option.some.inj H
     go_wp2_with (first | ((with_reducible refine gate_callee (f := 10) rfl ?_); refine goesL_ (some 20) rfl rfl Tryd.func10 (by kernel_rfl) rfl #[.int .i64 x0_3, .int .i64 x1_3] rfl (by (try simp only [List.map_toArray, List.map_cons, List.map_nil]); first | done | rfl | (simp only [List.length_drop, List.length_take]; rfl)) ?_; (with_reducible refine (procedure_Next.calls kj3 x0_3 x1_3 t113 t114 _ ?side1 A8.out).mono ?_); (case side1 => exact GL_transitions.of_below (by repeat (first | (with_reducible first | exact HB.out | apply below_alloc | apply pw_below_drewN | apply below_drew1) | exact HB.out)) HG_transitions.out); rintro e w19 ⟨rfl, hb⟩; refine ⟨_, rfl, ?_⟩; have n0_ := Aside0.mk (below_step (by repeat (first | (with_reducible first | exact HB.out | apply below_alloc | apply pw_below_drewN | apply below_drew1) | exact HB.out)) hb); clear HB; have HB := n0_; clear n0_; (try clear hb); (try clear hb2); (try clear hk); (try clear hi)) | ((with_reducible refine gate_callee (f := 11) rfl ?_); refine goesL_ (some 26) rfl rfl Tryd.func11 (by kernel_rfl) rfl #[.int .i64 x0_3, .int .i64 x1_3] rfl (by (try simp only [List.map_toArray, List.map_cons, List.map_nil]); first | done | rfl | (simp only [List.length_drop, List.length_take]; rfl)) ?_; (with_reducible refine (customsref24_Next.calls kj3 x0_3 x1_3 t115 t116 _ A9.out).mono ?_); rintro e w' ⟨rfl, ⟨nd, rfl⟩⟩; refine ⟨_, rfl, ?_⟩))
     go_ret
     exact ⟨by first | rfl | (simp [errW_none, errW_some] <;> rfl) | (simp [*, errW_none, errW_some] <;> rfl), by repeat (first | (with_reducible first | exact HB.out | apply below_alloc | apply pw_below_drewN | apply below_drew1) | exact HB.out)⟩
   ·
    rw [if_neg c10] at H
    have c10b0 : (t113 == t115) = false := beq_eq_false_iff_ne.mpr c10
    have c10b1 : (t113 != t115) = true := bne_iff_ne.mpr c10
    obtain rfl := Option.some.inj H
    go_wp2_with (first | ((with_reducible refine gate_callee (f := 10) rfl ?_); refine goesL_ (some 20) rfl rfl Tryd.func10 (by kernel_rfl) rfl #[.int .i64 x0_3, .int .i64 x1_3] rfl (by (try simp only [List.map_toArray, List.map_cons, List.map_nil]); first | done | rfl | (simp only [List.length_drop, List.length_take]; rfl)) ?_; (with_reducible refine (procedure_Next.calls kj3 x0_3 x1_3 t113 t114 _ ?side1 A8.out).mono ?_); (case side1 => exact GL_transitions.of_below (by repeat (first | (with_reducible first | exact HB.out | apply below_alloc | apply pw_below_drewN | apply below_drew1) | exact HB.out)) HG_transitions.out); rintro e w20 ⟨rfl, hb⟩; refine ⟨_, rfl, ?_⟩; have n0_ := Aside0.mk (below_step (by repeat (first | (with_reducible first | exact HB.out | apply below_alloc | apply pw_below_drewN | apply below_drew1) | exact HB.out)) hb); clear HB; have HB := n0_; clear n0_; (try clear hb); (try clear hb2); (try clear hk); (try clear hi)) | ((with_reducible refine gate_callee (f := 11) rfl ?_); refine goesL_ (some 26) rfl rfl Tryd.func11 (by kernel_rfl) rfl #[.int .i64 x0_3, .int .i64 x1_3] rfl (by (try simp only [List.map_toArray, List.map_cons, List.map_nil]); first | done | rfl | (simp only [List.length_drop, List.length_take]; rfl)) ?_; (with_reducible refine (customsref24_Next.calls kj3 x0_3 x1_3 t115 t116 _ A9.out).mono ?_); rintro e w' ⟨rfl, ⟨nd, rfl⟩⟩; refine ⟨_, rfl, ?_⟩))
    go_ret
    exact ⟨by first | rfl | (simp [errW_none, errW_some] <;> rfl) | (simp [*, errW_none, errW_some] <;> rfl), by repeat (first | (with_reducible first | exact HB.out | apply below_alloc | apply pw_below_drewN | apply below_drew1) | exact HB.out)⟩

/-- THE ONE PURE STATEMENT of customslaw24_ProcedureNext: yours. -/
def customslaw24_ProcedureNext.Pure : Prop := ∀ (a0 : Int) (a1 : Int) (a2 : Bool), (Lit.int .i64 a0).wf = true → (Lit.int .i64 a1).wf = true → ∃ k, customslaw24_ProcedureNext.f k a0 a1 a2 = some true
theorem customslaw24_ProcedureNext.walk (P : customslaw24_ProcedureNext.Pure) (a0 : Int) (a1 : Int) (a2 : Bool) (w : World) (hG_transitions : GL_transitions w) (w0 : (Lit.int .i64 a0).wf = true) (w1 : (Lit.int .i64 a1).wf = true) :
  Calls Tryd.prog 3 #[.int .i64 a0, .int .i64 a1, .bool a2] w fun e w' => e = .returned (.bool true) ∧ Below w.heap.size w w' := by
 obtain ⟨k, h⟩ := P a0 a1 a2 w0 w1
 refine (customslaw24_ProcedureNext.calls k a0 a1 a2 true w hG_transitions h).mono ?_
 rintro e w' ⟨rfl, hd⟩
 exact ⟨rfl, hd⟩

end Go.Proofs.YtgmedimcejnkjaaDoor.G

