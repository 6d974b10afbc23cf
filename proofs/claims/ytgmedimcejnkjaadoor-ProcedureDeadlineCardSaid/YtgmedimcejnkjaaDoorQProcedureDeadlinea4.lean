/-
  Functions of the program and of the references as plain Lean functions, each with a proof that the machine's call comes to what it answers. Conditions: what each contract states.
-/
import Derived.Test.YtgmedimcejnkjaaDoorQCorew1
import Derived.Test.YtgmedimcejnkjaaDoorQProcedureDeadlinew1
import Derived.Test.YtgmedimcejnkjaaDoorQCorea1
import Derived.Test.YtgmedimcejnkjaaDoorQProcedureDeadlinea1
import Derived.Test.YtgmedimcejnkjaaDoorQProcedureDeadlinea2
import Derived.Test.YtgmedimcejnkjaaDoorQProcedureDeadlinea3
namespace Go.Proofs.YtgmedimcejnkjaaDoor.G
open Go.RowKit Go.Proofs.YtgmedimcejnkjaaDoorW.PrintWords Go.Proofs.YtgmedimcejnkjaaDoorW.PrintLast Go.Proofs.YtgmedimcejnkjaaDoorW.PrintMore
attribute [local go_sem] max2_int min2_int max_two min_two max_three min_three max_four min_four   -- for this text's walks alone
set_option linter.unusedVariables false
set_option linter.unusedSimpArgs false

mutual
def customsref04_AddWorking.j0 : Nat → List Int → Int → Int → Bool → Option (Int × Int)
 | 0, _, _, _, _ => none
 | k + 1, x0, x1, x2, x24 => if x24 = true then (some (0, 2)) else (customsref04_AddWorking.l0 k x0 x1 x2)
def customsref04_AddWorking.l0 : Nat → List Int → Int → Int → Option (Int × Int)
 | 0, _, _, _ => none
 | k + 1, x0, x1, x2 => if x2 > 0 then ((customsref04_Day.f (wrap64 (x1 + 1))).bind fun t367 => (if t367 = true then ((customsref04_Working.f k x0 (wrap64 (x1 + 1))).bind fun t368 => (if t368 = true then (customsref04_AddWorking.l0 k x0 (wrap64 (x1 + 1)) (wrap64 (x2 - 1))) else (customsref04_AddWorking.l0 k x0 (wrap64 (x1 + 1)) x2))) else (some (0, 3)))) else (some (x1, 0))
end
def customsref04_AddWorking.f (k : Nat) (l0 : List Int) (a1 : Int) (a2 : Int) : Option (Int × Int) := (customsref04_Valid.f k l0).bind fun t365 => (if t365 = 0 then ((customsref04_Day.f a1).bind fun t366 => (if t366 = true then (if a2 < 0 then (customsref04_AddWorking.j0 k l0 a1 a2 true) else (customsref04_AddWorking.j0 k l0 a1 a2 (decide (a2 > 1000)))) else (customsref04_AddWorking.j0 k l0 a1 a2 true))) else (some (0, t365)))
set_option maxHeartbeats 8000000 in
set_option maxRecDepth 100000 in
theorem customsref04_AddWorking.calls (k : Nat) (A0 : Option Addr) (c0 : Nat) (l0 : List Int) (a1 : Int) (a2 : Int) (r1 : Int) (r2 : Int) (w : World) (hr0 : Kd.C (Kd.int .i64) w A0 l0.length l0) (hc0 : l0.length ≤ c0) (h : customsref04_AddWorking.f k l0 a1 a2 = some (r1, r2)) :
  Calls Tryd.prog 43 #[.slice A0 l0.length c0, .int .i64 a1, .int .i64 a2] w fun e w' => e = .returned (.tuple #[.int .i64 r1, .int .i64 r2]) ∧ Drawn0 w w' := by
 have HR0 := Aside0.mk hr0
 have HC0 := Aside0.mk hc0
 clear hr0 hc0
 have H : ((customsref04_Valid.f k l0).bind fun t365 => (if t365 = 0 then ((customsref04_Day.f a1).bind fun t366 => (if t366 = true then (if a2 < 0 then (customsref04_AddWorking.j0 k l0 a1 a2 true) else (customsref04_AddWorking.j0 k l0 a1 a2 (decide (a2 > 1000)))) else (customsref04_AddWorking.j0 k l0 a1 a2 true))) else (some (0, t365)))) = some (r1, r2) := h
 clear h
 replace H := Option.bind_eq_some_iff.mp H
 obtain ⟨t365, A40, H⟩ := H
 replace H : (if t365 = 0 then ((customsref04_Day.f a1).bind fun t366 => (if t366 = true then (if a2 < 0 then (customsref04_AddWorking.j0 k l0 a1 a2 true) else (customsref04_AddWorking.j0 k l0 a1 a2 (decide (a2 > 1000)))) else (customsref04_AddWorking.j0 k l0 a1 a2 true))) else (some (0, t365))) = some (r1, r2) := H
 have A4 := Aside0.mk A40
 clear A40
 by_cases c5 : t365 = 0
 ·
  rw [if_pos c5] at H
  have c5b0 : (t365 == 0) = true := beq_iff_eq.mpr c5
  have c5b1 : (t365 != 0) = false := bne_eq_false_iff_eq.mpr c5
  clear c5
  have HC6 := Aside0.mk H
  clear H
  go_enter Tryd.func43, Tryd.ntmps43
  go_upto_region 4 with (first | ((with_reducible refine gate_callee (f := 39) rfl ?_); refine goesL_ (some 10) rfl rfl Tryd.func39 (by kernel_rfl) rfl #[.slice A0 l0.length c0] rfl (by (try simp only [List.map_toArray, List.map_cons, List.map_nil]); first | done | rfl | (simp only [List.length_drop, List.length_take]; rfl)) ?_; (with_reducible refine (customsref04_Valid.calls k _ _ l0 t365 _ ?side1 ?side2 A4.out).mono ?_); (case side1 => repeat (first | exact HR0.out | (with_reducible refine Kd.C_alloc ?_ _) | (with_reducible refine Kd.C_drewN ?_ _) | (with_reducible refine Kd.C_drew ?_))); (case side2 => exact HC0.out); rintro e w' ⟨rfl, ⟨nd, rfl⟩⟩; refine ⟨_, rfl, ?_⟩))
  (try simp only [Act.put, List.setIfInBounds_toArray, List.set_cons_zero, List.set_cons_succ])
  go_cut [24] (fun v24 wc => ∃ (kq : Nat) (x24_5 : Bool), v24 = .bool x24_5 ∧ Aside0 (customsref04_AddWorking.j0 kq l0 a1 a2 x24_5 = some (r1, r2)) ∧ Aside0 (kq ≤ k) ∧ Drawn0 w wc)
  case first =>
   have H := HC6.out
   clear HC6
   replace H := Option.bind_eq_some_iff.mp H
   obtain ⟨t366, A70, H⟩ := H
   replace H : (if t366 = true then (if a2 < 0 then (customsref04_AddWorking.j0 k l0 a1 a2 true) else (customsref04_AddWorking.j0 k l0 a1 a2 (decide (a2 > 1000)))) else (customsref04_AddWorking.j0 k l0 a1 a2 true)) = some (r1, r2) := H
   have A7 := Aside0.mk A70
   clear A70
   by_cases c8 : t366 = true
   ·
    subst c8
    have H1 : (if a2 < 0 then (customsref04_AddWorking.j0 k l0 a1 a2 true) else (customsref04_AddWorking.j0 k l0 a1 a2 (decide (a2 > 1000)))) = some (r1, r2) := by rw [if_pos rfl] at H; exact H
    clear H
    have H := H1
    clear H1
    by_cases c9 : a2 < 0
    ·
     rw [if_pos c9] at H
     have c9b0 : decide (a2 < 0) = true := decide_eq_true c9
     clear c9
     (first | rw [c9b0] | (simp only [i64_w, i32_w]; rw [c9b0]) | skip)
     have H' := Aside0.mk H
     clear H
     go_wp2_with (first | ((with_reducible refine gate_callee (f := 40) rfl ?_); refine goesL_ (some 15) rfl rfl Tryd.func40 (by kernel_rfl) rfl #[.int .i64 a1] rfl (by (try simp only [List.map_toArray, List.map_cons, List.map_nil]); first | done | rfl | (simp only [List.length_drop, List.length_take]; rfl)) ?_; (with_reducible refine (customsref04_Day.calls a1 true _ A7.out).mono ?_); rintro e w' ⟨rfl, ⟨nd, rfl⟩⟩; refine ⟨_, rfl, ?_⟩))
     go_meet
     case rel => exact ⟨_, (true), (by first | rfl | (simp; done) | (simp [*]; done)), H', ⟨by first | omega | exact Nat.le_refl _⟩, by repeat (first | exact Drawn0.refl _ | apply Drawn0.step)⟩
    ·
     rw [if_neg c9] at H
     have c9b0 : decide (a2 < 0) = false := decide_eq_false c9
     clear c9
     (first | rw [c9b0] | (simp only [i64_w, i32_w]; rw [c9b0]) | skip)
     have H' := Aside0.mk H
     clear H
     go_wp2_with (first | ((with_reducible refine gate_callee (f := 40) rfl ?_); refine goesL_ (some 15) rfl rfl Tryd.func40 (by kernel_rfl) rfl #[.int .i64 a1] rfl (by (try simp only [List.map_toArray, List.map_cons, List.map_nil]); first | done | rfl | (simp only [List.length_drop, List.length_take]; rfl)) ?_; (with_reducible refine (customsref04_Day.calls a1 true _ A7.out).mono ?_); rintro e w' ⟨rfl, ⟨nd, rfl⟩⟩; refine ⟨_, rfl, ?_⟩))
     go_meet
     case rel => exact ⟨_, (decide (a2 > 1000)), (by first | rfl | (simp; done) | (simp [*]; done)), H', ⟨by first | omega | exact Nat.le_refl _⟩, by repeat (first | exact Drawn0.refl _ | apply Drawn0.step)⟩
   ·
    replace c8 := Bool.eq_false_iff.mpr c8
    subst c8
    have H1 : (customsref04_AddWorking.j0 k l0 a1 a2 true) = some (r1, r2) := by rw [if_neg (show ¬ (false = true) by decide)] at H; exact H
    clear H
    have H := H1
    clear H1
    have H' := Aside0.mk H
    clear H
    go_wp2_with (first | ((with_reducible refine gate_callee (f := 40) rfl ?_); refine goesL_ (some 15) rfl rfl Tryd.func40 (by kernel_rfl) rfl #[.int .i64 a1] rfl (by (try simp only [List.map_toArray, List.map_cons, List.map_nil]); first | done | rfl | (simp only [List.length_drop, List.length_take]; rfl)) ?_; (with_reducible refine (customsref04_Day.calls a1 false _ A7.out).mono ?_); rintro e w' ⟨rfl, ⟨nd, rfl⟩⟩; refine ⟨_, rfl, ?_⟩))
    go_meet
    case rel => exact ⟨_, (true), (by first | rfl | (simp; done) | (simp [*]; done)), H', ⟨by first | omega | exact Nat.le_refl _⟩, by repeat (first | exact Drawn0.refl _ | apply Drawn0.step)⟩
  case rest =>
   clear HC6
   try clear p2
   try clear c3
   try clear c4
   try clear c5
   try clear c5b0
   try clear c5b1
   try clear c8
   try clear c9
   try clear c9b0
   obtain ⟨kq, x24_5, rfl, HA, HJ5, ⟨mc5, rfl⟩⟩ := hcut
   cases kq with
   | zero => exact absurd HA.out (by simp [customsref04_AddWorking.j0])
   | succ kj5 =>
    have H := HA.out
    clear HA
    simp only [customsref04_AddWorking.j0] at H
    by_cases c10 : x24_5 = true
    ·
     subst c10
     have H1 : (some (0, 2)) = some (r1, r2) := by rw [if_pos rfl] at H; exact H
     clear H
     have H := H1
     clear H1
     simp only [Option.some.injEq, Prod.mk.injEq] at H
     obtain ⟨rfl, rfl⟩ := H
     go_wp2
     go_ret2
     exact ⟨by first | rfl | (simp; done) | (simp [*]; done), by repeat (first | exact Drawn0.refl _ | apply Drawn0.step)⟩
    ·
     replace c10 := Bool.eq_false_iff.mpr c10
     subst c10
     have H1 : (customsref04_AddWorking.l0 kj5 l0 a1 a2) = some (r1, r2) := by rw [if_neg (show ¬ (false = true) by decide)] at H; exact H
     clear H
     have H := H1
     clear H1
     have H' := Aside0.mk H
     clear H
     go_wp2
     go_loopg [1, 2] kj5 (fun kq v1 v2 w' => ∃ (x1_2 : Int) (x2_2 : Int), v1 = .int .i64 x1_2 ∧ v2 = .int .i64 x2_2 ∧ Aside0 (customsref04_AddWorking.l0 kq l0 x1_2 x2_2 = some (r1, r2)) ∧ Aside0 (kq ≤ kj5) ∧ Drawn0 w w')
     case atStart => exact ⟨(a1), (a2), (by first | rfl | (simp; done) | (simp [*]; done)), (by first | rfl | (simp; done) | (simp [*]; done)), H', ⟨Nat.le_refl _⟩, by repeat (first | exact Drawn0.refl _ | apply Drawn0.step)⟩
     case round =>
      clear H'
      try clear c1
      try clear p2
      try clear c3
      try clear c4
      try clear c5
      try clear c5b0
      try clear c5b1
      try clear c8
      try clear c9
      try clear c9b0
      try clear c10
      try clear p2
      obtain ⟨x1_2, x2_2, rfl, rfl, HA, HK2, ⟨m2, rfl⟩⟩ := hrel
      cases gk with
      | zero => exact absurd HA.out (by simp [customsref04_AddWorking.l0])
      | succ k2 =>
       have H := HA.out
       clear HA
       simp only [customsref04_AddWorking.l0] at H
       by_cases c11 : x2_2 > 0
       ·
        rw [if_pos c11] at H
        have c11b0 : decide (0 < x2_2) = true := decide_eq_true c11
        clear c11
        replace H := Option.bind_eq_some_iff.mp H
        obtain ⟨t367, A120, H⟩ := H
        replace H : (if t367 = true then ((customsref04_Working.f k2 l0 (wrap64 (x1_2 + 1))).bind fun t368 => (if t368 = true then (customsref04_AddWorking.l0 k2 l0 (wrap64 (x1_2 + 1)) (wrap64 (x2_2 - 1))) else (customsref04_AddWorking.l0 k2 l0 (wrap64 (x1_2 + 1)) x2_2))) else (some (0, 3))) = some (r1, r2) := H
        have A12 := Aside0.mk A120
        clear A120
        by_cases c13 : t367 = true
        ·
         subst c13
         have H1 : ((customsref04_Working.f k2 l0 (wrap64 (x1_2 + 1))).bind fun t368 => (if t368 = true then (customsref04_AddWorking.l0 k2 l0 (wrap64 (x1_2 + 1)) (wrap64 (x2_2 - 1))) else (customsref04_AddWorking.l0 k2 l0 (wrap64 (x1_2 + 1)) x2_2))) = some (r1, r2) := by rw [if_pos rfl] at H; exact H
         clear H
         have H := H1
         clear H1
         replace H := Option.bind_eq_some_iff.mp H
         obtain ⟨t368, A140, H⟩ := H
         replace H : (if t368 = true then (customsref04_AddWorking.l0 k2 l0 (wrap64 (x1_2 + 1)) (wrap64 (x2_2 - 1))) else (customsref04_AddWorking.l0 k2 l0 (wrap64 (x1_2 + 1)) x2_2)) = some (r1, r2) := H
         have A14 := Aside0.mk A140
         clear A140
         by_cases c15 : t368 = true
         ·
          subst c15
          have H1 : (customsref04_AddWorking.l0 k2 l0 (wrap64 (x1_2 + 1)) (wrap64 (x2_2 - 1))) = some (r1, r2) := by rw [if_pos rfl] at H; exact H
          clear H
          have H := H1
          clear H1
          have H' := Aside0.mk H
          clear H
          go_wp2_with (first | ((with_reducible refine gate_callee (f := 40) rfl ?_); refine goesL_ (some 30) rfl rfl Tryd.func40 (by kernel_rfl) rfl #[.int .i64 (wrap64 (x1_2 + 1))] rfl (by (try simp only [List.map_toArray, List.map_cons, List.map_nil]); first | done | rfl | (simp only [List.length_drop, List.length_take]; rfl)) ?_; (with_reducible refine (customsref04_Day.calls (wrap64 (x1_2 + 1)) true _ A12.out).mono ?_); rintro e w' ⟨rfl, ⟨nd, rfl⟩⟩; refine ⟨_, rfl, ?_⟩) | ((with_reducible refine gate_callee (f := 53) rfl ?_); refine goesL_ (some 34) rfl rfl Tryd.func53 (by kernel_rfl) rfl #[.slice A0 l0.length c0, .int .i64 (wrap64 (x1_2 + 1))] rfl (by (try simp only [List.map_toArray, List.map_cons, List.map_nil]); first | done | rfl | (simp only [List.length_drop, List.length_take]; rfl)) ?_; (with_reducible refine (customsref04_Working.calls k2 _ _ l0 (wrap64 (x1_2 + 1)) true _ ?side1 ?side2 A14.out).mono ?_); (case side1 => repeat (first | exact HR0.out | (with_reducible refine Kd.C_alloc ?_ _) | (with_reducible refine Kd.C_drewN ?_ _) | (with_reducible refine Kd.C_drew ?_))); (case side2 => exact HC0.out); rintro e w' ⟨rfl, ⟨nd, rfl⟩⟩; refine ⟨_, rfl, ?_⟩))
          go_roundg k2
          case measure => have := HJ5.out; have := HK2.out; omega
          case rel => exact ⟨(wrap64 (x1_2 + 1)), (wrap64 (x2_2 - 1)), (by first | rfl | (simp; done) | (simp [*]; done)), (by first | rfl | (simp; done) | (simp [*]; done)), H', ⟨by have := HJ5.out; have := HK2.out; omega⟩, by repeat (first | exact Drawn0.refl _ | apply Drawn0.step)⟩
         ·
          replace c15 := Bool.eq_false_iff.mpr c15
          subst c15
          have H1 : (customsref04_AddWorking.l0 k2 l0 (wrap64 (x1_2 + 1)) x2_2) = some (r1, r2) := by rw [if_neg (show ¬ (false = true) by decide)] at H; exact H
          clear H
          have H := H1
          clear H1
          have H' := Aside0.mk H
          clear H
          go_wp2_with (first | ((with_reducible refine gate_callee (f := 40) rfl ?_); refine goesL_ (some 30) rfl rfl Tryd.func40 (by kernel_rfl) rfl #[.int .i64 (wrap64 (x1_2 + 1))] rfl (by (try simp only [List.map_toArray, List.map_cons, List.map_nil]); first | done | rfl | (simp only [List.length_drop, List.length_take]; rfl)) ?_; (with_reducible refine (customsref04_Day.calls (wrap64 (x1_2 + 1)) true _ A12.out).mono ?_); rintro e w' ⟨rfl, ⟨nd, rfl⟩⟩; refine ⟨_, rfl, ?_⟩) | ((with_reducible refine gate_callee (f := 53) rfl ?_); refine goesL_ (some 34) rfl rfl Tryd.func53 (by kernel_rfl) rfl #[.slice A0 l0.length c0, .int .i64 (wrap64 (x1_2 + 1))] rfl (by (try simp only [List.map_toArray, List.map_cons, List.map_nil]); first | done | rfl | (simp only [List.length_drop, List.length_take]; rfl)) ?_; (with_reducible refine (customsref04_Working.calls k2 _ _ l0 (wrap64 (x1_2 + 1)) false _ ?side1 ?side2 A14.out).mono ?_); (case side1 => repeat (first | exact HR0.out | (with_reducible refine Kd.C_alloc ?_ _) | (with_reducible refine Kd.C_drewN ?_ _) | (with_reducible refine Kd.C_drew ?_))); (case side2 => exact HC0.out); rintro e w' ⟨rfl, ⟨nd, rfl⟩⟩; refine ⟨_, rfl, ?_⟩))
          go_roundg k2
          case measure => have := HJ5.out; have := HK2.out; omega
          case rel => exact ⟨(wrap64 (x1_2 + 1)), (x2_2), (by first | rfl | (simp; done) | (simp [*]; done)), (by first | rfl | (simp; done) | (simp [*]; done)), H', ⟨by have := HJ5.out; have := HK2.out; omega⟩, by repeat (first | exact Drawn0.refl _ | apply Drawn0.step)⟩
        ·
         replace c13 := Bool.eq_false_iff.mpr c13
         subst c13
         have H1 : (some (0, 3)) = some (r1, r2) := by rw [if_neg (show ¬ (false = true) by decide)] at H; exact H
         clear H
         have H := H1
         clear H1
         simp only [Option.some.injEq, Prod.mk.injEq] at H
         obtain ⟨rfl, rfl⟩ := H
         go_wp2_with (first | ((with_reducible refine gate_callee (f := 40) rfl ?_); refine goesL_ (some 30) rfl rfl Tryd.func40 (by kernel_rfl) rfl #[.int .i64 (wrap64 (x1_2 + 1))] rfl (by (try simp only [List.map_toArray, List.map_cons, List.map_nil]); first | done | rfl | (simp only [List.length_drop, List.length_take]; rfl)) ?_; (with_reducible refine (customsref04_Day.calls (wrap64 (x1_2 + 1)) false _ A12.out).mono ?_); rintro e w' ⟨rfl, ⟨nd, rfl⟩⟩; refine ⟨_, rfl, ?_⟩))
         go_ret2
         exact ⟨by first | rfl | (simp; done) | (simp [*]; done), by repeat (first | exact Drawn0.refl _ | apply Drawn0.step)⟩
       ·
        rw [if_neg c11] at H
        have c11b0 : decide (0 < x2_2) = false := decide_eq_false c11
        clear c11
        simp only [Option.some.injEq, Prod.mk.injEq] at H
        obtain ⟨rfl, rfl⟩ := H
        go_wp2
        go_ret2
        exact ⟨by first | rfl | (simp; done) | (simp [*]; done), by repeat (first | exact Drawn0.refl _ | apply Drawn0.step)⟩
 ·
  rw [if_neg c5] at H
  have c5b0 : (t365 == 0) = false := beq_eq_false_iff_ne.mpr c5
  have c5b1 : (t365 != 0) = true := bne_iff_ne.mpr c5
  simp only [Option.some.injEq, Prod.mk.injEq] at H
  obtain ⟨rfl, rfl⟩ := H
  go_enter Tryd.func43, Tryd.ntmps43
  go_wp2_with (first | ((with_reducible refine gate_callee (f := 39) rfl ?_); refine goesL_ (some 10) rfl rfl Tryd.func39 (by kernel_rfl) rfl #[.slice A0 l0.length c0] rfl (by (try simp only [List.map_toArray, List.map_cons, List.map_nil]); first | done | rfl | (simp only [List.length_drop, List.length_take]; rfl)) ?_; (with_reducible refine (customsref04_Valid.calls k _ _ l0 t365 _ ?side1 ?side2 A4.out).mono ?_); (case side1 => repeat (first | exact HR0.out | (with_reducible refine Kd.C_alloc ?_ _) | (with_reducible refine Kd.C_drewN ?_ _) | (with_reducible refine Kd.C_drew ?_))); (case side2 => exact HC0.out); rintro e w' ⟨rfl, ⟨nd, rfl⟩⟩; refine ⟨_, rfl, ?_⟩))
  go_ret2
  exact ⟨by first | rfl | (simp; done) | (simp [*]; done), by repeat (first | exact Drawn0.refl _ | apply Drawn0.step)⟩

def customsref04_NextWorking.l0 : Nat → List Int → Int → Option (Int × Int)
 | 0, _, _ => none
 | k + 1, x0, x1 => (customsref04_Working.f k x0 x1).bind fun t371 => (if t371 = true then (some (x1, 0)) else ((customsref04_Day.f (wrap64 (x1 + 1))).bind fun t372 => (if t372 = true then (customsref04_NextWorking.l0 k x0 (wrap64 (x1 + 1))) else (some (0, 3)))))
def customsref04_NextWorking.f (k : Nat) (l0 : List Int) (a1 : Int) : Option (Int × Int) := (customsref04_Valid.f k l0).bind fun t369 => (if t369 = 0 then ((customsref04_Day.f a1).bind fun t370 => (if t370 = true then (customsref04_NextWorking.l0 k l0 a1) else (some (0, 2)))) else (some (0, t369)))
set_option maxHeartbeats 8000000 in
set_option maxRecDepth 100000 in
theorem customsref04_NextWorking.calls (k : Nat) (A0 : Option Addr) (c0 : Nat) (l0 : List Int) (a1 : Int) (r1 : Int) (r2 : Int) (w : World) (hr0 : Kd.C (Kd.int .i64) w A0 l0.length l0) (hc0 : l0.length ≤ c0) (h : customsref04_NextWorking.f k l0 a1 = some (r1, r2)) :
  Calls Tryd.prog 44 #[.slice A0 l0.length c0, .int .i64 a1] w fun e w' => e = .returned (.tuple #[.int .i64 r1, .int .i64 r2]) ∧ Drawn0 w w' := by
 have HR0 := Aside0.mk hr0
 have HC0 := Aside0.mk hc0
 clear hr0 hc0
 have H : ((customsref04_Valid.f k l0).bind fun t369 => (if t369 = 0 then ((customsref04_Day.f a1).bind fun t370 => (if t370 = true then (customsref04_NextWorking.l0 k l0 a1) else (some (0, 2)))) else (some (0, t369)))) = some (r1, r2) := h
 clear h
 replace H := Option.bind_eq_some_iff.mp H
 obtain ⟨t369, A30, H⟩ := H
 replace H : (if t369 = 0 then ((customsref04_Day.f a1).bind fun t370 => (if t370 = true then (customsref04_NextWorking.l0 k l0 a1) else (some (0, 2)))) else (some (0, t369))) = some (r1, r2) := H
 have A3 := Aside0.mk A30
 clear A30
 by_cases c4 : t369 = 0
 ·
  rw [if_pos c4] at H
  have c4b0 : (t369 == 0) = true := beq_iff_eq.mpr c4
  have c4b1 : (t369 != 0) = false := bne_eq_false_iff_eq.mpr c4
  clear c4
  replace H := Option.bind_eq_some_iff.mp H
  obtain ⟨t370, A50, H⟩ := H
  replace H : (if t370 = true then (customsref04_NextWorking.l0 k l0 a1) else (some (0, 2))) = some (r1, r2) := H
  have A5 := Aside0.mk A50
  clear A50
  by_cases c6 : t370 = true
  ·
   subst c6
   have H1 : (customsref04_NextWorking.l0 k l0 a1) = some (r1, r2) := by rw [if_pos rfl] at H; exact H
   clear H
   have H := H1
   clear H1
   have H' := Aside0.mk H
   clear H
   go_enter Tryd.func44, Tryd.ntmps44
   go_wp2_with (first | ((with_reducible refine gate_callee (f := 39) rfl ?_); refine goesL_ (some 8) rfl rfl Tryd.func39 (by kernel_rfl) rfl #[.slice A0 l0.length c0] rfl (by (try simp only [List.map_toArray, List.map_cons, List.map_nil]); first | done | rfl | (simp only [List.length_drop, List.length_take]; rfl)) ?_; (with_reducible refine (customsref04_Valid.calls k _ _ l0 t369 _ ?side1 ?side2 A3.out).mono ?_); (case side1 => repeat (first | exact HR0.out | (with_reducible refine Kd.C_alloc ?_ _) | (with_reducible refine Kd.C_drewN ?_ _) | (with_reducible refine Kd.C_drew ?_))); (case side2 => exact HC0.out); rintro e w' ⟨rfl, ⟨nd, rfl⟩⟩; refine ⟨_, rfl, ?_⟩) | ((with_reducible refine gate_callee (f := 40) rfl ?_); refine goesL_ (some 13) rfl rfl Tryd.func40 (by kernel_rfl) rfl #[.int .i64 a1] rfl (by (try simp only [List.map_toArray, List.map_cons, List.map_nil]); first | done | rfl | (simp only [List.length_drop, List.length_take]; rfl)) ?_; (with_reducible refine (customsref04_Day.calls a1 true _ A5.out).mono ?_); rintro e w' ⟨rfl, ⟨nd, rfl⟩⟩; refine ⟨_, rfl, ?_⟩))
   go_loopg [1] k (fun kq v1 w' => ∃ (x1_1 : Int), v1 = .int .i64 x1_1 ∧ Aside0 (customsref04_NextWorking.l0 kq l0 x1_1 = some (r1, r2)) ∧ Aside0 (kq ≤ k) ∧ Drawn0 w w')
   case atStart => exact ⟨(a1), (by first | rfl | (simp; done) | (simp [*]; done)), H', ⟨Nat.le_refl _⟩, by repeat (first | exact Drawn0.refl _ | apply Drawn0.step)⟩
   case round =>
    clear H'
    try clear p2
    try clear c3
    try clear c4
    try clear c4b0
    try clear c4b1
    try clear c6
    obtain ⟨x1_1, rfl, HA, HK1, ⟨m1, rfl⟩⟩ := hrel
    cases gk with
    | zero => exact absurd HA.out (by simp [customsref04_NextWorking.l0])
    | succ k1 =>
     have H := HA.out
     clear HA
     simp only [customsref04_NextWorking.l0] at H
     replace H := Option.bind_eq_some_iff.mp H
     obtain ⟨t371, A70, H⟩ := H
     replace H : (if t371 = true then (some (x1_1, 0)) else ((customsref04_Day.f (wrap64 (x1_1 + 1))).bind fun t372 => (if t372 = true then (customsref04_NextWorking.l0 k1 l0 (wrap64 (x1_1 + 1))) else (some (0, 3))))) = some (r1, r2) := H
     have A7 := Aside0.mk A70
     clear A70
     by_cases c8 : t371 = true
     ·
      subst c8
      have H1 : (some (x1_1, 0)) = some (r1, r2) := by rw [if_pos rfl] at H; exact H
      clear H
      have H := H1
      clear H1
      simp only [Option.some.injEq, Prod.mk.injEq] at H
      obtain ⟨rfl, rfl⟩ := H
      go_wp2_with (first | ((with_reducible refine gate_callee (f := 53) rfl ?_); refine goesL_ (some 17) rfl rfl Tryd.func53 (by kernel_rfl) rfl #[.slice A0 l0.length c0, .int .i64 x1_1] rfl (by (try simp only [List.map_toArray, List.map_cons, List.map_nil]); first | done | rfl | (simp only [List.length_drop, List.length_take]; rfl)) ?_; (with_reducible refine (customsref04_Working.calls k1 _ _ l0 x1_1 true _ ?side1 ?side2 A7.out).mono ?_); (case side1 => repeat (first | exact HR0.out | (with_reducible refine Kd.C_alloc ?_ _) | (with_reducible refine Kd.C_drewN ?_ _) | (with_reducible refine Kd.C_drew ?_))); (case side2 => exact HC0.out); rintro e w' ⟨rfl, ⟨nd, rfl⟩⟩; refine ⟨_, rfl, ?_⟩))
      go_ret2
      exact ⟨by first | rfl | (simp; done) | (simp [*]; done), by repeat (first | exact Drawn0.refl _ | apply Drawn0.step)⟩
     ·
      replace c8 := Bool.eq_false_iff.mpr c8
      subst c8
      have H1 : ((customsref04_Day.f (wrap64 (x1_1 + 1))).bind fun t372 => (if t372 = true then (customsref04_NextWorking.l0 k1 l0 (wrap64 (x1_1 + 1))) else (some (0, 3)))) = some (r1, r2) := by rw [if_neg (show ¬ (false = true) by decide)] at H; exact H
      clear H
      have H := H1
      clear H1
      replace H := Option.bind_eq_some_iff.mp H
      obtain ⟨t372, A90, H⟩ := H
      replace H : (if t372 = true then (customsref04_NextWorking.l0 k1 l0 (wrap64 (x1_1 + 1))) else (some (0, 3))) = some (r1, r2) := H
      have A9 := Aside0.mk A90
      clear A90
      by_cases c10 : t372 = true
      ·
       subst c10
       have H1 : (customsref04_NextWorking.l0 k1 l0 (wrap64 (x1_1 + 1))) = some (r1, r2) := by rw [if_pos rfl] at H; exact H
       clear H
       have H := H1
       clear H1
       have H' := Aside0.mk H
       clear H
       go_wp2_with (first | ((with_reducible refine gate_callee (f := 53) rfl ?_); refine goesL_ (some 17) rfl rfl Tryd.func53 (by kernel_rfl) rfl #[.slice A0 l0.length c0, .int .i64 x1_1] rfl (by (try simp only [List.map_toArray, List.map_cons, List.map_nil]); first | done | rfl | (simp only [List.length_drop, List.length_take]; rfl)) ?_; (with_reducible refine (customsref04_Working.calls k1 _ _ l0 x1_1 false _ ?side1 ?side2 A7.out).mono ?_); (case side1 => repeat (first | exact HR0.out | (with_reducible refine Kd.C_alloc ?_ _) | (with_reducible refine Kd.C_drewN ?_ _) | (with_reducible refine Kd.C_drew ?_))); (case side2 => exact HC0.out); rintro e w' ⟨rfl, ⟨nd, rfl⟩⟩; refine ⟨_, rfl, ?_⟩) | ((with_reducible refine gate_callee (f := 40) rfl ?_); refine goesL_ (some 22) rfl rfl Tryd.func40 (by kernel_rfl) rfl #[.int .i64 (wrap64 (x1_1 + 1))] rfl (by (try simp only [List.map_toArray, List.map_cons, List.map_nil]); first | done | rfl | (simp only [List.length_drop, List.length_take]; rfl)) ?_; (with_reducible refine (customsref04_Day.calls (wrap64 (x1_1 + 1)) true _ A9.out).mono ?_); rintro e w' ⟨rfl, ⟨nd, rfl⟩⟩; refine ⟨_, rfl, ?_⟩))
       go_roundg k1
       case measure => have := HK1.out; omega
       case rel => exact ⟨(wrap64 (x1_1 + 1)), (by first | rfl | (simp; done) | (simp [*]; done)), H', ⟨by have := HK1.out; omega⟩, by repeat (first | exact Drawn0.refl _ | apply Drawn0.step)⟩
      ·
       replace c10 := Bool.eq_false_iff.mpr c10
       subst c10
       have H1 : (some (0, 3)) = some (r1, r2) := by rw [if_neg (show ¬ (false = true) by decide)] at H; exact H
       clear H
       have H := H1
       clear H1
       simp only [Option.some.injEq, Prod.mk.injEq] at H
       obtain ⟨rfl, rfl⟩ := H
       go_wp2_with (first | ((with_reducible refine gate_callee (f := 53) rfl ?_); refine goesL_ (some 17) rfl rfl Tryd.func53 (by kernel_rfl) rfl #[.slice A0 l0.length c0, .int .i64 x1_1] rfl (by (try simp only [List.map_toArray, List.map_cons, List.map_nil]); first | done | rfl | (simp only [List.length_drop, List.length_take]; rfl)) ?_; (with_reducible refine (customsref04_Working.calls k1 _ _ l0 x1_1 false _ ?side1 ?side2 A7.out).mono ?_); (case side1 => repeat (first | exact HR0.out | (with_reducible refine Kd.C_alloc ?_ _) | (with_reducible refine Kd.C_drewN ?_ _) | (with_reducible refine Kd.C_drew ?_))); (case side2 => exact HC0.out); rintro e w' ⟨rfl, ⟨nd, rfl⟩⟩; refine ⟨_, rfl, ?_⟩) | ((with_reducible refine gate_callee (f := 40) rfl ?_); refine goesL_ (some 22) rfl rfl Tryd.func40 (by kernel_rfl) rfl #[.int .i64 (wrap64 (x1_1 + 1))] rfl (by (try simp only [List.map_toArray, List.map_cons, List.map_nil]); first | done | rfl | (simp only [List.length_drop, List.length_take]; rfl)) ?_; (with_reducible refine (customsref04_Day.calls (wrap64 (x1_1 + 1)) false _ A9.out).mono ?_); rintro e w' ⟨rfl, ⟨nd, rfl⟩⟩; refine ⟨_, rfl, ?_⟩))
       go_ret2
       exact ⟨by first | rfl | (simp; done) | (simp [*]; done), by repeat (first | exact Drawn0.refl _ | apply Drawn0.step)⟩
  ·
   replace c6 := Bool.eq_false_iff.mpr c6
   subst c6
   have H1 : (some (0, 2)) = some (r1, r2) := by rw [if_neg (show ¬ (false = true) by decide)] at H; exact H
   clear H
   have H := H1
   clear H1
   simp only [Option.some.injEq, Prod.mk.injEq] at H
   obtain ⟨rfl, rfl⟩ := H
   go_enter Tryd.func44, Tryd.ntmps44
   go_wp2_with (first | ((with_reducible refine gate_callee (f := 39) rfl ?_); refine goesL_ (some 8) rfl rfl Tryd.func39 (by kernel_rfl) rfl #[.slice A0 l0.length c0] rfl (by (try simp only [List.map_toArray, List.map_cons, List.map_nil]); first | done | rfl | (simp only [List.length_drop, List.length_take]; rfl)) ?_; (with_reducible refine (customsref04_Valid.calls k _ _ l0 t369 _ ?side1 ?side2 A3.out).mono ?_); (case side1 => repeat (first | exact HR0.out | (with_reducible refine Kd.C_alloc ?_ _) | (with_reducible refine Kd.C_drewN ?_ _) | (with_reducible refine Kd.C_drew ?_))); (case side2 => exact HC0.out); rintro e w' ⟨rfl, ⟨nd, rfl⟩⟩; refine ⟨_, rfl, ?_⟩) | ((with_reducible refine gate_callee (f := 40) rfl ?_); refine goesL_ (some 13) rfl rfl Tryd.func40 (by kernel_rfl) rfl #[.int .i64 a1] rfl (by (try simp only [List.map_toArray, List.map_cons, List.map_nil]); first | done | rfl | (simp only [List.length_drop, List.length_take]; rfl)) ?_; (with_reducible refine (customsref04_Day.calls a1 false _ A5.out).mono ?_); rintro e w' ⟨rfl, ⟨nd, rfl⟩⟩; refine ⟨_, rfl, ?_⟩))
   go_ret2
   exact ⟨by first | rfl | (simp; done) | (simp [*]; done), by repeat (first | exact Drawn0.refl _ | apply Drawn0.step)⟩
 ·
  rw [if_neg c4] at H
  have c4b0 : (t369 == 0) = false := beq_eq_false_iff_ne.mpr c4
  have c4b1 : (t369 != 0) = true := bne_iff_ne.mpr c4
  simp only [Option.some.injEq, Prod.mk.injEq] at H
  obtain ⟨rfl, rfl⟩ := H
  go_enter Tryd.func44, Tryd.ntmps44
  go_wp2_with (first | ((with_reducible refine gate_callee (f := 39) rfl ?_); refine goesL_ (some 8) rfl rfl Tryd.func39 (by kernel_rfl) rfl #[.slice A0 l0.length c0] rfl (by (try simp only [List.map_toArray, List.map_cons, List.map_nil]); first | done | rfl | (simp only [List.length_drop, List.length_take]; rfl)) ?_; (with_reducible refine (customsref04_Valid.calls k _ _ l0 t369 _ ?side1 ?side2 A3.out).mono ?_); (case side1 => repeat (first | exact HR0.out | (with_reducible refine Kd.C_alloc ?_ _) | (with_reducible refine Kd.C_drewN ?_ _) | (with_reducible refine Kd.C_drew ?_))); (case side2 => exact HC0.out); rintro e w' ⟨rfl, ⟨nd, rfl⟩⟩; refine ⟨_, rfl, ?_⟩))
  go_ret2
  exact ⟨by first | rfl | (simp; done) | (simp [*]; done), by repeat (first | exact Drawn0.refl _ | apply Drawn0.step)⟩

mutual
def customsref04_Deadline.j0 : Nat → List Int → Int → Bool → Int → Int → Int → Option (Int × Int)
 | 0, _, _, _, _, _, _ => none
 | k + 1, x0, x1, x36, x374000, x374001, x374002 => if x36 = true then (some (0, 2)) else ((customsref04_AddMonths.f k x1 x374000).bind fun bt379 => (if bt379.2 = 0 then ((customsref04_Day.f (wrap64 (bt379.1 + x374001))).bind fun t381 => (customsref04_Deadline.j1 k x0 bt379.1 (!t381) x374000 x374001 x374002)) else (customsref04_Deadline.j1 k x0 bt379.1 true x374000 x374001 x374002)))
def customsref04_Deadline.j1 : Nat → List Int → Int → Bool → Int → Int → Int → Option (Int × Int)
 | 0, _, _, _, _, _, _ => none
 | k + 1, x0, x9, x53, x374000, x374001, x374002 => if x53 = true then (some (0, 3)) else ((customsref04_AddWorking.f k x0 (wrap64 (x9 + x374001)) x374002).bind fun bt382 => (if bt382.2 = 0 then ((customsref04_NextWorking.f k x0 bt382.1).bind fun bt384 => (some (bt384.1, bt384.2))) else (some (0, bt382.2))))
end
def customsref04_Deadline.f (k : Nat) (l0 : List Int) (a1 : Int) (a2_0 : Int) (a2_1 : Int) (a2_2 : Int) : Option (Int × Int) := (customsref04_Valid.f k l0).bind fun t374 => (if t374 = 0 then ((customsref04_Day.f a1).bind fun t375 => (if t375 = true then ((customsref04_within.f a2_0).bind fun t376 => (if t376 = true then ((customsref04_within.f a2_1).bind fun t377 => (if t377 = true then ((customsref04_within.f a2_2).bind fun t378 => (customsref04_Deadline.j0 k l0 a1 (!t378) a2_0 a2_1 a2_2)) else (customsref04_Deadline.j0 k l0 a1 true a2_0 a2_1 a2_2))) else (customsref04_Deadline.j0 k l0 a1 true a2_0 a2_1 a2_2))) else (customsref04_Deadline.j0 k l0 a1 true a2_0 a2_1 a2_2))) else (some (0, t374)))
set_option maxHeartbeats 8000000 in
set_option maxRecDepth 100000 in
theorem customsref04_Deadline.calls (k : Nat) (A0 : Option Addr) (c0 : Nat) (l0 : List Int) (a1 : Int) (a2_0 : Int) (a2_1 : Int) (a2_2 : Int) (r1 : Int) (r2 : Int) (w : World) (hr0 : Kd.C (Kd.int .i64) w A0 l0.length l0) (hc0 : l0.length ≤ c0) (h : customsref04_Deadline.f k l0 a1 a2_0 a2_1 a2_2 = some (r1, r2)) :
  Calls Tryd.prog 31 #[.slice A0 l0.length c0, .int .i64 a1, .agg #[.int .i64 a2_0, .int .i64 a2_1, .int .i64 a2_2]] w fun e w' => e = .returned (.tuple #[.int .i64 r1, .int .i64 r2]) ∧ Below w.heap.size w w' := by
 have hu46 := Tryd.underlying46
 have HR0 := Aside0.mk hr0
 have HC0 := Aside0.mk hc0
 clear hr0 hc0
 have HB := Aside0.mk (Below.refl w.heap.size w)
 have H : ((customsref04_Valid.f k l0).bind fun t374 => (if t374 = 0 then ((customsref04_Day.f a1).bind fun t375 => (if t375 = true then ((customsref04_within.f a2_0).bind fun t376 => (if t376 = true then ((customsref04_within.f a2_1).bind fun t377 => (if t377 = true then ((customsref04_within.f a2_2).bind fun t378 => (customsref04_Deadline.j0 k l0 a1 (!t378) a2_0 a2_1 a2_2)) else (customsref04_Deadline.j0 k l0 a1 true a2_0 a2_1 a2_2))) else (customsref04_Deadline.j0 k l0 a1 true a2_0 a2_1 a2_2))) else (customsref04_Deadline.j0 k l0 a1 true a2_0 a2_1 a2_2))) else (some (0, t374)))) = some (r1, r2) := h
 clear h
 replace H := Option.bind_eq_some_iff.mp H
 obtain ⟨t374, A40, H⟩ := H
 replace H : (if t374 = 0 then ((customsref04_Day.f a1).bind fun t375 => (if t375 = true then ((customsref04_within.f a2_0).bind fun t376 => (if t376 = true then ((customsref04_within.f a2_1).bind fun t377 => (if t377 = true then ((customsref04_within.f a2_2).bind fun t378 => (customsref04_Deadline.j0 k l0 a1 (!t378) a2_0 a2_1 a2_2)) else (customsref04_Deadline.j0 k l0 a1 true a2_0 a2_1 a2_2))) else (customsref04_Deadline.j0 k l0 a1 true a2_0 a2_1 a2_2))) else (customsref04_Deadline.j0 k l0 a1 true a2_0 a2_1 a2_2))) else (some (0, t374))) = some (r1, r2) := H
 have A4 := Aside0.mk A40
 clear A40
 by_cases c5 : t374 = 0
 ·
  rw [if_pos c5] at H
  have c5b0 : (t374 == 0) = true := beq_iff_eq.mpr c5
  have c5b1 : (t374 != 0) = false := bne_eq_false_iff_eq.mpr c5
  clear c5
  have HC6 := Aside0.mk H
  clear H
  go_enter Tryd.func31, Tryd.ntmps31
  go_upto_region 4 with (first | ((with_reducible refine gate_dst (N := 5) rfl ?_); refine box_event ?hg (N := 5) ?hd (cs := #[.int .i64 a2_0, .int .i64 a2_1, .int .i64 a2_2]) (t := 46) ?hr ?_; (case hd => rfl); (case hg => rfl); (case hr => first | (go_simp; done) | (go_simp; rfl)); intro gb373 hg w7 hbox hb; have n0_ := Aside0.mk (below_step (by repeat (first | (with_reducible first | exact HB.out | apply below_alloc | apply pw_below_drewN | apply below_drew1) | exact HB.out)) hb); have n1_ := Aside0.mk (hbox); have n2_ := Aside0.mk ((by rw [hg]; exact (below_size (by repeat (first | (with_reducible first | exact HB.out | apply below_alloc | apply pw_below_drewN | apply below_drew1) | exact HB.out))) : w.heap.size ≤ gb373)); have n3_ := Aside0.mk ((by rw [hg]; exact (below_size (by repeat (first | (with_reducible first | exact HB.out | apply below_alloc | apply pw_below_drewN | apply below_drew1) | exact HB.out))) : w.heap.size ≤ gb373)); clear HB; have HB := n0_; have BK373 := n1_; have GW373 := n2_; have GE373 := n3_; clear n0_ n1_ n2_ n3_; clear hb hbox hg) | ((with_reducible refine gate_callee (f := 39) rfl ?_); refine goesL_ (some 12) rfl rfl Tryd.func39 (by kernel_rfl) rfl #[.slice A0 l0.length c0] rfl (by (try simp only [List.map_toArray, List.map_cons, List.map_nil]); first | done | rfl | (simp only [List.length_drop, List.length_take]; rfl)) ?_; (with_reducible refine (customsref04_Valid.calls k _ _ l0 t374 _ ?side1 ?side2 A4.out).mono ?_); (case side1 => repeat (first | exact (Kd.C_below HR0.out HB.out) | (with_reducible refine Kd.C_alloc ?_ _) | (with_reducible refine Kd.C_drewN ?_ _) | (with_reducible refine Kd.C_drew ?_))); (case side2 => exact HC0.out); rintro e w' ⟨rfl, ⟨nd, rfl⟩⟩; refine ⟨_, rfl, ?_⟩))
  (try simp only [Act.put, List.setIfInBounds_toArray, List.set_cons_zero, List.set_cons_succ])
  go_cut [36] (fun v36 wc => ∃ (kq : Nat) (x36_5 : Bool), v36 = .bool x36_5 ∧ Aside0 (customsref04_Deadline.j0 kq l0 a1 x36_5 a2_0 a2_1 a2_2 = some (r1, r2)) ∧ Aside0 (kq ≤ k) ∧ Aside0 (wc.heap[gb373]? = some (.cells #[.int .i64 a2_0, .int .i64 a2_1, .int .i64 a2_2] 46 (0, 0))) ∧ Aside0 (Below w.heap.size w wc))
  case first =>
   have H := HC6.out
   clear HC6
   replace H := Option.bind_eq_some_iff.mp H
   obtain ⟨t375, A80, H⟩ := H
   replace H : (if t375 = true then ((customsref04_within.f a2_0).bind fun t376 => (if t376 = true then ((customsref04_within.f a2_1).bind fun t377 => (if t377 = true then ((customsref04_within.f a2_2).bind fun t378 => (customsref04_Deadline.j0 k l0 a1 (!t378) a2_0 a2_1 a2_2)) else (customsref04_Deadline.j0 k l0 a1 true a2_0 a2_1 a2_2))) else (customsref04_Deadline.j0 k l0 a1 true a2_0 a2_1 a2_2))) else (customsref04_Deadline.j0 k l0 a1 true a2_0 a2_1 a2_2)) = some (r1, r2) := H
   have A8 := Aside0.mk A80
   clear A80
   by_cases c9 : t375 = true
   ·
    subst c9
    have H1 : ((customsref04_within.f a2_0).bind fun t376 => (if t376 = true then ((customsref04_within.f a2_1).bind fun t377 => (if t377 = true then ((customsref04_within.f a2_2).bind fun t378 => (customsref04_Deadline.j0 k l0 a1 (!t378) a2_0 a2_1 a2_2)) else (customsref04_Deadline.j0 k l0 a1 true a2_0 a2_1 a2_2))) else (customsref04_Deadline.j0 k l0 a1 true a2_0 a2_1 a2_2))) = some (r1, r2) := by rw [if_pos rfl] at H; exact H
    clear H
    have H := H1
    clear H1
    replace H := Option.bind_eq_some_iff.mp H
    obtain ⟨t376, A100, H⟩ := H
    replace H : (if t376 = true then ((customsref04_within.f a2_1).bind fun t377 => (if t377 = true then ((customsref04_within.f a2_2).bind fun t378 => (customsref04_Deadline.j0 k l0 a1 (!t378) a2_0 a2_1 a2_2)) else (customsref04_Deadline.j0 k l0 a1 true a2_0 a2_1 a2_2))) else (customsref04_Deadline.j0 k l0 a1 true a2_0 a2_1 a2_2)) = some (r1, r2) := H
    have A10 := Aside0.mk A100
    clear A100
    by_cases c11 : t376 = true
    ·
     subst c11
     have H1 : ((customsref04_within.f a2_1).bind fun t377 => (if t377 = true then ((customsref04_within.f a2_2).bind fun t378 => (customsref04_Deadline.j0 k l0 a1 (!t378) a2_0 a2_1 a2_2)) else (customsref04_Deadline.j0 k l0 a1 true a2_0 a2_1 a2_2))) = some (r1, r2) := by rw [if_pos rfl] at H; exact H
     clear H
     have H := H1
     clear H1
     replace H := Option.bind_eq_some_iff.mp H
     obtain ⟨t377, A120, H⟩ := H
     replace H : (if t377 = true then ((customsref04_within.f a2_2).bind fun t378 => (customsref04_Deadline.j0 k l0 a1 (!t378) a2_0 a2_1 a2_2)) else (customsref04_Deadline.j0 k l0 a1 true a2_0 a2_1 a2_2)) = some (r1, r2) := H
     have A12 := Aside0.mk A120
     clear A120
     by_cases c13 : t377 = true
     ·
      subst c13
      have H1 : ((customsref04_within.f a2_2).bind fun t378 => (customsref04_Deadline.j0 k l0 a1 (!t378) a2_0 a2_1 a2_2)) = some (r1, r2) := by rw [if_pos rfl] at H; exact H
      clear H
      have H := H1
      clear H1
      replace H := Option.bind_eq_some_iff.mp H
      obtain ⟨t378, A140, H⟩ := H
      replace H : (customsref04_Deadline.j0 k l0 a1 (!t378) a2_0 a2_1 a2_2) = some (r1, r2) := H
      have A14 := Aside0.mk A140
      clear A140
      have H' := Aside0.mk H
      clear H
      go_wp2_with (first | ((with_reducible refine gate_callee (f := 40) rfl ?_); refine goesL_ (some 17) rfl rfl Tryd.func40 (by kernel_rfl) rfl #[.int .i64 a1] rfl (by (try simp only [List.map_toArray, List.map_cons, List.map_nil]); first | done | rfl | (simp only [List.length_drop, List.length_take]; rfl)) ?_; (with_reducible refine (customsref04_Day.calls a1 true _ A8.out).mono ?_); rintro e w' ⟨rfl, ⟨nd, rfl⟩⟩; refine ⟨_, rfl, ?_⟩; have hcz15_0 : w7.cell? ⟨gb373, 0, none⟩ = some (.int .i64 a2_0) := (blk_cell BK373.out 0).trans rfl; have hcz15_1 : w7.cell? ⟨gb373, 1, none⟩ = some (.int .i64 a2_1) := (blk_cell BK373.out 1).trans rfl; have hcz15_2 : w7.cell? ⟨gb373, 2, none⟩ = some (.int .i64 a2_2) := (blk_cell BK373.out 2).trans rfl; have hfz15_0 := blk_frozen BK373.out 0; have hfz15_1 := blk_frozen BK373.out 1; have hfz15_2 := blk_frozen BK373.out 2; (try (have hpz15_1 : ∀ v0_ v1_ : Value, ((w7.setCell ⟨gb373, 0, none⟩ v0_).setCell ⟨gb373, 1, none⟩ v1_).cell? ⟨gb373, 1, none⟩ = some v1_ := by (intros; go_simp))); (try (have hpz15_2 : ∀ v0_ v1_ v2_ : Value, (((w7.setCell ⟨gb373, 0, none⟩ v0_).setCell ⟨gb373, 1, none⟩ v1_).setCell ⟨gb373, 2, none⟩ v2_).cell? ⟨gb373, 2, none⟩ = some v2_ := by (intros; go_simp)))) | (go_at_call 41; (with_reducible refine (customsref04_within.calls a2_0 true _ A10.out).mono ?_); rintro e w' ⟨rfl, ⟨nd, rfl⟩⟩) | (go_at_call 41; (with_reducible refine (customsref04_within.calls a2_1 true _ A12.out).mono ?_); rintro e w' ⟨rfl, ⟨nd, rfl⟩⟩) | (go_at_call 41; (with_reducible refine (customsref04_within.calls a2_2 t378 _ A14.out).mono ?_); rintro e w' ⟨rfl, ⟨nd, rfl⟩⟩))
      go_meet
      case rel => exact ⟨_, (!t378), (by first | rfl | (simp; done) | (simp [*]; done)), H', ⟨by first | omega | exact Nat.le_refl _⟩, ⟨by (with_reducible repeat (first | refine blk_drewN ?_ _ | refine blk_drew ?_ | refine blk_alloc ?_ _)); exact BK373.out⟩, ⟨by repeat (first | (with_reducible first | exact HB.out | apply below_alloc | apply pw_below_drewN | apply below_drew1 | refine below_set ?_ GE373.out) | exact HB.out)⟩⟩
     ·
      replace c13 := Bool.eq_false_iff.mpr c13
      subst c13
      have H1 : (customsref04_Deadline.j0 k l0 a1 true a2_0 a2_1 a2_2) = some (r1, r2) := by rw [if_neg (show ¬ (false = true) by decide)] at H; exact H
      clear H
      have H := H1
      clear H1
      have H' := Aside0.mk H
      clear H
      go_wp2_with (first | ((with_reducible refine gate_callee (f := 40) rfl ?_); refine goesL_ (some 17) rfl rfl Tryd.func40 (by kernel_rfl) rfl #[.int .i64 a1] rfl (by (try simp only [List.map_toArray, List.map_cons, List.map_nil]); first | done | rfl | (simp only [List.length_drop, List.length_take]; rfl)) ?_; (with_reducible refine (customsref04_Day.calls a1 true _ A8.out).mono ?_); rintro e w' ⟨rfl, ⟨nd, rfl⟩⟩; refine ⟨_, rfl, ?_⟩; have hcz16_0 : w7.cell? ⟨gb373, 0, none⟩ = some (.int .i64 a2_0) := (blk_cell BK373.out 0).trans rfl; have hcz16_1 : w7.cell? ⟨gb373, 1, none⟩ = some (.int .i64 a2_1) := (blk_cell BK373.out 1).trans rfl; have hcz16_2 : w7.cell? ⟨gb373, 2, none⟩ = some (.int .i64 a2_2) := (blk_cell BK373.out 2).trans rfl; have hfz16_0 := blk_frozen BK373.out 0; have hfz16_1 := blk_frozen BK373.out 1; have hfz16_2 := blk_frozen BK373.out 2; (try (have hpz16_1 : ∀ v0_ v1_ : Value, ((w7.setCell ⟨gb373, 0, none⟩ v0_).setCell ⟨gb373, 1, none⟩ v1_).cell? ⟨gb373, 1, none⟩ = some v1_ := by (intros; go_simp))); (try (have hpz16_2 : ∀ v0_ v1_ v2_ : Value, (((w7.setCell ⟨gb373, 0, none⟩ v0_).setCell ⟨gb373, 1, none⟩ v1_).setCell ⟨gb373, 2, none⟩ v2_).cell? ⟨gb373, 2, none⟩ = some v2_ := by (intros; go_simp)))) | (go_at_call 41; (with_reducible refine (customsref04_within.calls a2_0 true _ A10.out).mono ?_); rintro e w' ⟨rfl, ⟨nd, rfl⟩⟩) | (go_at_call 41; (with_reducible refine (customsref04_within.calls a2_1 false _ A12.out).mono ?_); rintro e w' ⟨rfl, ⟨nd, rfl⟩⟩))
      go_meet
      case rel => exact ⟨_, (true), (by first | rfl | (simp; done) | (simp [*]; done)), H', ⟨by first | omega | exact Nat.le_refl _⟩, ⟨by (with_reducible repeat (first | refine blk_drewN ?_ _ | refine blk_drew ?_ | refine blk_alloc ?_ _)); exact BK373.out⟩, ⟨by repeat (first | (with_reducible first | exact HB.out | apply below_alloc | apply pw_below_drewN | apply below_drew1 | refine below_set ?_ GE373.out) | exact HB.out)⟩⟩
    ·
     replace c11 := Bool.eq_false_iff.mpr c11
     subst c11
     have H1 : (customsref04_Deadline.j0 k l0 a1 true a2_0 a2_1 a2_2) = some (r1, r2) := by rw [if_neg (show ¬ (false = true) by decide)] at H; exact H
     clear H
     have H := H1
     clear H1
     have H' := Aside0.mk H
     clear H
     go_wp2_with (first | ((with_reducible refine gate_callee (f := 40) rfl ?_); refine goesL_ (some 17) rfl rfl Tryd.func40 (by kernel_rfl) rfl #[.int .i64 a1] rfl (by (try simp only [List.map_toArray, List.map_cons, List.map_nil]); first | done | rfl | (simp only [List.length_drop, List.length_take]; rfl)) ?_; (with_reducible refine (customsref04_Day.calls a1 true _ A8.out).mono ?_); rintro e w' ⟨rfl, ⟨nd, rfl⟩⟩; refine ⟨_, rfl, ?_⟩; have hcz17_0 : w7.cell? ⟨gb373, 0, none⟩ = some (.int .i64 a2_0) := (blk_cell BK373.out 0).trans rfl; have hcz17_1 : w7.cell? ⟨gb373, 1, none⟩ = some (.int .i64 a2_1) := (blk_cell BK373.out 1).trans rfl; have hcz17_2 : w7.cell? ⟨gb373, 2, none⟩ = some (.int .i64 a2_2) := (blk_cell BK373.out 2).trans rfl; have hfz17_0 := blk_frozen BK373.out 0; have hfz17_1 := blk_frozen BK373.out 1; have hfz17_2 := blk_frozen BK373.out 2; (try (have hpz17_1 : ∀ v0_ v1_ : Value, ((w7.setCell ⟨gb373, 0, none⟩ v0_).setCell ⟨gb373, 1, none⟩ v1_).cell? ⟨gb373, 1, none⟩ = some v1_ := by (intros; go_simp))); (try (have hpz17_2 : ∀ v0_ v1_ v2_ : Value, (((w7.setCell ⟨gb373, 0, none⟩ v0_).setCell ⟨gb373, 1, none⟩ v1_).setCell ⟨gb373, 2, none⟩ v2_).cell? ⟨gb373, 2, none⟩ = some v2_ := by (intros; go_simp)))) | (go_at_call 41; (with_reducible refine (customsref04_within.calls a2_0 false _ A10.out).mono ?_); rintro e w' ⟨rfl, ⟨nd, rfl⟩⟩))
     go_meet
     case rel => exact ⟨_, (true), (by first | rfl | (simp; done) | (simp [*]; done)), H', ⟨by first | omega | exact Nat.le_refl _⟩, ⟨by (with_reducible repeat (first | refine blk_drewN ?_ _ | refine blk_drew ?_ | refine blk_alloc ?_ _)); exact BK373.out⟩, ⟨by repeat (first | (with_reducible first | exact HB.out | apply below_alloc | apply pw_below_drewN | apply below_drew1 | refine below_set ?_ GE373.out) | exact HB.out)⟩⟩
   ·
    replace c9 := Bool.eq_false_iff.mpr c9
    subst c9
    have H1 : (customsref04_Deadline.j0 k l0 a1 true a2_0 a2_1 a2_2) = some (r1, r2) := by rw [if_neg (show ¬ (false = true) by decide)] at H; exact H
    clear H
    have H := H1
    clear H1
    have H' := Aside0.mk H
    clear H
    go_wp2_with (first | ((with_reducible refine gate_callee (f := 40) rfl ?_); refine goesL_ (some 17) rfl rfl Tryd.func40 (by kernel_rfl) rfl #[.int .i64 a1] rfl (by (try simp only [List.map_toArray, List.map_cons, List.map_nil]); first | done | rfl | (simp only [List.length_drop, List.length_take]; rfl)) ?_; (with_reducible refine (customsref04_Day.calls a1 false _ A8.out).mono ?_); rintro e w' ⟨rfl, ⟨nd, rfl⟩⟩; refine ⟨_, rfl, ?_⟩))
    go_meet
    case rel => exact ⟨_, (true), (by first | rfl | (simp; done) | (simp [*]; done)), H', ⟨by first | omega | exact Nat.le_refl _⟩, ⟨by (with_reducible repeat (first | refine blk_drewN ?_ _ | refine blk_drew ?_ | refine blk_alloc ?_ _)); exact BK373.out⟩, ⟨by repeat (first | (with_reducible first | exact HB.out | apply below_alloc | apply pw_below_drewN | apply below_drew1 | refine below_set ?_ GE373.out) | exact HB.out)⟩⟩
  case rest =>
   clear HC6
   try clear c1
   try clear p2
   try clear c3
   try clear c4
   try clear c5
   try clear c5b0
   try clear c5b1
   try clear c9
   try clear c11
   try clear c13
   try clear hcz15_0
   try clear hcz15_1
   try clear hcz15_2
   try clear hcz16_0
   try clear hcz16_1
   try clear hcz16_2
   try clear hcz17_0
   try clear hcz17_1
   try clear hcz17_2
   try clear hfz15_0
   try clear hfz15_1
   try clear hfz15_2
   try clear hfz16_0
   try clear hfz16_1
   try clear hfz16_2
   try clear hfz17_0
   try clear hfz17_1
   try clear hfz17_2
   obtain ⟨kq, x36_5, rfl, HA, HJ5, BK373, HB⟩ := hcut
   cases kq with
   | zero => exact absurd HA.out (by simp [customsref04_Deadline.j0])
   | succ kj5 =>
    have H := HA.out
    clear HA
    simp only [customsref04_Deadline.j0] at H
    by_cases c18 : x36_5 = true
    ·
     subst c18
     have H1 : (some (0, 2)) = some (r1, r2) := by rw [if_pos rfl] at H; exact H
     clear H
     have H := H1
     clear H1
     simp only [Option.some.injEq, Prod.mk.injEq] at H
     obtain ⟨rfl, rfl⟩ := H
     go_wp2
     go_ret2
     exact ⟨by first | rfl | (simp [errW_none, errW_some] <;> rfl) | (simp [*, errW_none, errW_some] <;> rfl), by repeat (first | (with_reducible first | exact HB.out | apply below_alloc | apply pw_below_drewN | apply below_drew1 | refine below_set ?_ GE373.out) | exact HB.out)⟩
    ·
     replace c18 := Bool.eq_false_iff.mpr c18
     subst c18
     have H1 : ((customsref04_AddMonths.f kj5 a1 a2_0).bind fun bt379 => (if bt379.2 = 0 then ((customsref04_Day.f (wrap64 (bt379.1 + a2_1))).bind fun t381 => (customsref04_Deadline.j1 kj5 l0 bt379.1 (!t381) a2_0 a2_1 a2_2)) else (customsref04_Deadline.j1 kj5 l0 bt379.1 true a2_0 a2_1 a2_2))) = some (r1, r2) := by rw [if_neg (show ¬ (false = true) by decide)] at H; exact H
     clear H
     have H := H1
     clear H1
     replace H := Option.bind_eq_some_iff.mp H
     obtain ⟨⟨t379, t380⟩, A190, H⟩ := H
     replace H : (if t380 = 0 then ((customsref04_Day.f (wrap64 (t379 + a2_1))).bind fun t381 => (customsref04_Deadline.j1 kj5 l0 t379 (!t381) a2_0 a2_1 a2_2)) else (customsref04_Deadline.j1 kj5 l0 t379 true a2_0 a2_1 a2_2)) = some (r1, r2) := H
     have A19 := Aside0.mk A190
     clear A190
     have HC20 := Aside0.mk H
     clear H
     have hcz21_0 : wc.cell? ⟨gb373, 0, none⟩ = some (.int .i64 a2_0) := (blk_cell BK373.out 0).trans rfl
     have hcz21_1 : wc.cell? ⟨gb373, 1, none⟩ = some (.int .i64 a2_1) := (blk_cell BK373.out 1).trans rfl
     have hcz21_2 : wc.cell? ⟨gb373, 2, none⟩ = some (.int .i64 a2_2) := (blk_cell BK373.out 2).trans rfl
     have hfz21_0 := blk_frozen BK373.out 0
     have hfz21_1 := blk_frozen BK373.out 1
     have hfz21_2 := blk_frozen BK373.out 2
     (try (have hpz21_1 : ∀ v0_ v1_ : Value, ((wc.setCell ⟨gb373, 0, none⟩ v0_).setCell ⟨gb373, 1, none⟩ v1_).cell? ⟨gb373, 1, none⟩ = some v1_ := by (intros; go_simp)))
     (try (have hpz21_2 : ∀ v0_ v1_ v2_ : Value, (((wc.setCell ⟨gb373, 0, none⟩ v0_).setCell ⟨gb373, 1, none⟩ v1_).setCell ⟨gb373, 2, none⟩ v2_).cell? ⟨gb373, 2, none⟩ = some v2_ := by (intros; go_simp)))
     go_upto_region 7 with (first | ((with_reducible refine gate_callee (f := 42) rfl ?_); refine goesL_ (some 41) rfl rfl Tryd.func42 (by kernel_rfl) rfl #[.int .i64 a1, .int .i64 a2_0] rfl (by (try simp only [List.map_toArray, List.map_cons, List.map_nil]); first | done | rfl | (simp only [List.length_drop, List.length_take]; rfl)) ?_; (with_reducible refine (customsref04_AddMonths.calls kj5 a1 a2_0 t379 t380 _ A19.out).mono ?_); rintro e w22 ⟨rfl, hb⟩; refine ⟨_, rfl, ?_⟩; have n0_ := Aside0.mk (blk_below (g := gb373) (o := .cells #[.int .i64 a2_0, .int .i64 a2_1, .int .i64 a2_2] 46 (0, 0)) (by (with_reducible repeat (first | refine blk_drewN ?_ _ | refine blk_drew ?_ | refine blk_alloc ?_ _)); exact BK373.out) hb); have n1_ := Aside0.mk (below_step (by repeat (first | (with_reducible first | exact HB.out | apply below_alloc | apply pw_below_drewN | apply below_drew1 | refine below_set ?_ GE373.out) | exact HB.out)) hb); clear BK373; clear HB; have BK373 := n0_; have HB := n1_; clear n0_ n1_; (try clear hb); (try clear hb2); (try clear hk); (try clear hi)))
     (try simp only [Act.put, List.setIfInBounds_toArray, List.set_cons_zero, List.set_cons_succ])
     go_cut [53] (fun v53 wc => ∃ (kq : Nat) (x53_19 : Bool), v53 = .bool x53_19 ∧ Aside0 (customsref04_Deadline.j1 kq l0 t379 x53_19 a2_0 a2_1 a2_2 = some (r1, r2)) ∧ Aside0 (kq ≤ kj5) ∧ Aside0 (wc.heap[gb373]? = some (.cells #[.int .i64 a2_0, .int .i64 a2_1, .int .i64 a2_2] 46 (0, 0))) ∧ Aside0 (Below w.heap.size w wc))
     case first =>
      have H := HC20.out
      clear HC20
      by_cases c23 : t380 = 0
      ·
       rw [if_pos c23] at H
       have c23b0 : (t380 == 0) = true := beq_iff_eq.mpr c23
       have c23b1 : (t380 != 0) = false := bne_eq_false_iff_eq.mpr c23
       clear c23
       (first | rw [c23b0] | (simp only [i64_w, i32_w]; rw [c23b0]) | skip)
       replace H := Option.bind_eq_some_iff.mp H
       obtain ⟨t381, A240, H⟩ := H
       replace H : (customsref04_Deadline.j1 kj5 l0 t379 (!t381) a2_0 a2_1 a2_2) = some (r1, r2) := H
       have A24 := Aside0.mk A240
       clear A240
       have H' := Aside0.mk H
       clear H
       have hcz25_0 : w22.cell? ⟨gb373, 0, none⟩ = some (.int .i64 a2_0) := (blk_cell BK373.out 0).trans rfl
       have hcz25_1 : w22.cell? ⟨gb373, 1, none⟩ = some (.int .i64 a2_1) := (blk_cell BK373.out 1).trans rfl
       have hcz25_2 : w22.cell? ⟨gb373, 2, none⟩ = some (.int .i64 a2_2) := (blk_cell BK373.out 2).trans rfl
       have hfz25_0 := blk_frozen BK373.out 0
       have hfz25_1 := blk_frozen BK373.out 1
       have hfz25_2 := blk_frozen BK373.out 2
       (try (have hpz25_1 : ∀ v0_ v1_ : Value, ((w22.setCell ⟨gb373, 0, none⟩ v0_).setCell ⟨gb373, 1, none⟩ v1_).cell? ⟨gb373, 1, none⟩ = some v1_ := by (intros; go_simp)))
       (try (have hpz25_2 : ∀ v0_ v1_ v2_ : Value, (((w22.setCell ⟨gb373, 0, none⟩ v0_).setCell ⟨gb373, 1, none⟩ v1_).setCell ⟨gb373, 2, none⟩ v2_).cell? ⟨gb373, 2, none⟩ = some v2_ := by (intros; go_simp)))
       go_wp2_with (first | (go_at_call 40; (with_reducible refine (customsref04_Day.calls (wrap64 (t379 + a2_1)) t381 _ A24.out).mono ?_); rintro e w' ⟨rfl, ⟨nd, rfl⟩⟩))
       go_meet
       case rel => exact ⟨_, (!t381), (by first | rfl | (simp; done) | (simp [*]; done)), H', ⟨by have := HJ5.out; first | omega | exact Nat.le_refl _⟩, ⟨by (with_reducible repeat (first | refine blk_drewN ?_ _ | refine blk_drew ?_ | refine blk_alloc ?_ _)); exact BK373.out⟩, ⟨by repeat (first | (with_reducible first | exact HB.out | apply below_alloc | apply pw_below_drewN | apply below_drew1 | refine below_set ?_ GE373.out) | exact HB.out)⟩⟩
      ·
       rw [if_neg c23] at H
       have c23b0 : (t380 == 0) = false := beq_eq_false_iff_ne.mpr c23
       have c23b1 : (t380 != 0) = true := bne_iff_ne.mpr c23
       (first | rw [c23b0] | (simp only [i64_w, i32_w]; rw [c23b0]) | skip)
       have H' := Aside0.mk H
       clear H
       go_wp2
       go_meet
       case rel => exact ⟨_, (true), (by first | rfl | (simp; done) | (simp [*]; done)), H', ⟨by have := HJ5.out; first | omega | exact Nat.le_refl _⟩, ⟨by (with_reducible repeat (first | refine blk_drewN ?_ _ | refine blk_drew ?_ | refine blk_alloc ?_ _)); exact BK373.out⟩, ⟨by repeat (first | (with_reducible first | exact HB.out | apply below_alloc | apply pw_below_drewN | apply below_drew1 | refine below_set ?_ GE373.out) | exact HB.out)⟩⟩
     case rest =>
      clear HC20
      try clear c1
      try clear c2
      try clear p2
      try clear c3
      try clear c4
      try clear c5
      try clear c5b0
      try clear c5b1
      try clear p6
      try clear c9
      try clear c11
      try clear c13
      try clear c18
      try clear c23
      try clear c23b0
      try clear c23b1
      try clear hcz15_0
      try clear hcz15_1
      try clear hcz15_2
      try clear hcz16_0
      try clear hcz16_1
      try clear hcz16_2
      try clear hcz17_0
      try clear hcz17_1
      try clear hcz17_2
      try clear hcz21_0
      try clear hcz21_1
      try clear hcz21_2
      try clear hcz25_0
      try clear hcz25_1
      try clear hcz25_2
      try clear hfz15_0
      try clear hfz15_1
      try clear hfz15_2
      try clear hfz16_0
      try clear hfz16_1
      try clear hfz16_2
      try clear hfz17_0
      try clear hfz17_1
      try clear hfz17_2
      try clear hfz21_0
      try clear hfz21_1
      try clear hfz21_2
      try clear hfz25_0
      try clear hfz25_1
      try clear hfz25_2
      try clear p2
      obtain ⟨kq, x53_19, rfl, HA, HJ19, BK373, HB⟩ := hcut
      cases kq with
      | zero => exact absurd HA.out (by simp [customsref04_Deadline.j1])
      | succ kj19 =>
       have H := HA.out
       clear HA
       simp only [customsref04_Deadline.j1] at H
       by_cases c26 : x53_19 = true
       ·
        subst c26
        have H1 : (some (0, 3)) = some (r1, r2) := by rw [if_pos rfl] at H; exact H
        clear H
        have H := H1
        clear H1
        simp only [Option.some.injEq, Prod.mk.injEq] at H
        obtain ⟨rfl, rfl⟩ := H
        go_wp2
        go_ret2
        exact ⟨by first | rfl | (simp [errW_none, errW_some] <;> rfl) | (simp [*, errW_none, errW_some] <;> rfl), by repeat (first | (with_reducible first | exact HB.out | apply below_alloc | apply pw_below_drewN | apply below_drew1 | refine below_set ?_ GE373.out) | exact HB.out)⟩
       ·
        replace c26 := Bool.eq_false_iff.mpr c26
        subst c26
        have H1 : ((customsref04_AddWorking.f kj19 l0 (wrap64 (t379 + a2_1)) a2_2).bind fun bt382 => (if bt382.2 = 0 then ((customsref04_NextWorking.f kj19 l0 bt382.1).bind fun bt384 => (some (bt384.1, bt384.2))) else (some (0, bt382.2)))) = some (r1, r2) := by rw [if_neg (show ¬ (false = true) by decide)] at H; exact H
        clear H
        have H := H1
        clear H1
        replace H := Option.bind_eq_some_iff.mp H
        obtain ⟨⟨t382, t383⟩, A270, H⟩ := H
        replace H : (if t383 = 0 then ((customsref04_NextWorking.f kj19 l0 t382).bind fun bt384 => (some (bt384.1, bt384.2))) else (some (0, t383))) = some (r1, r2) := H
        have A27 := Aside0.mk A270
        clear A270
        by_cases c28 : t383 = 0
        ·
         rw [if_pos c28] at H
         have c28b0 : (t383 == 0) = true := beq_iff_eq.mpr c28
         have c28b1 : (t383 != 0) = false := bne_eq_false_iff_eq.mpr c28
         clear c28
         replace H := Option.bind_eq_some_iff.mp H
         obtain ⟨⟨t384, t385⟩, A290, H⟩ := H
         replace H : (some (t384, t385)) = some (r1, r2) := H
         have A29 := Aside0.mk A290
         clear A290
         simp only [Option.some.injEq, Prod.mk.injEq] at H
         obtain ⟨rfl, rfl⟩ := H
         have hcz30_0 : wc.cell? ⟨gb373, 0, none⟩ = some (.int .i64 a2_0) := (blk_cell BK373.out 0).trans rfl
         have hcz30_1 : wc.cell? ⟨gb373, 1, none⟩ = some (.int .i64 a2_1) := (blk_cell BK373.out 1).trans rfl
         have hcz30_2 : wc.cell? ⟨gb373, 2, none⟩ = some (.int .i64 a2_2) := (blk_cell BK373.out 2).trans rfl
         have hfz30_0 := blk_frozen BK373.out 0
         have hfz30_1 := blk_frozen BK373.out 1
         have hfz30_2 := blk_frozen BK373.out 2
         (try (have hpz30_1 : ∀ v0_ v1_ : Value, ((wc.setCell ⟨gb373, 0, none⟩ v0_).setCell ⟨gb373, 1, none⟩ v1_).cell? ⟨gb373, 1, none⟩ = some v1_ := by (intros; go_simp)))
         (try (have hpz30_2 : ∀ v0_ v1_ v2_ : Value, (((wc.setCell ⟨gb373, 0, none⟩ v0_).setCell ⟨gb373, 1, none⟩ v1_).setCell ⟨gb373, 2, none⟩ v2_).cell? ⟨gb373, 2, none⟩ = some v2_ := by (intros; go_simp)))
         go_wp2_with (first | ((with_reducible refine gate_callee (f := 43) rfl ?_); refine goesL_ (some 62) rfl rfl Tryd.func43 (by kernel_rfl) rfl #[.slice A0 l0.length c0, .int .i64 (wrap64 (t379 + a2_1)), .int .i64 a2_2] rfl (by (try simp only [List.map_toArray, List.map_cons, List.map_nil]); first | done | rfl | (simp only [List.length_drop, List.length_take]; rfl)) ?_; (with_reducible refine (customsref04_AddWorking.calls kj19 _ _ l0 (wrap64 (t379 + a2_1)) a2_2 t382 t383 _ ?side1 ?side2 A27.out).mono ?_); (case side1 => repeat (first | exact (Kd.C_below HR0.out HB.out) | (with_reducible refine Kd.C_alloc ?_ _) | (with_reducible refine Kd.C_drewN ?_ _) | (with_reducible refine Kd.C_drew ?_))); (case side2 => exact HC0.out); rintro e w' ⟨rfl, ⟨nd, rfl⟩⟩; refine ⟨_, rfl, ?_⟩) | ((with_reducible refine gate_callee (f := 44) rfl ?_); refine goesL_ (some 70) rfl rfl Tryd.func44 (by kernel_rfl) rfl #[.slice A0 l0.length c0, .int .i64 t382] rfl (by (try simp only [List.map_toArray, List.map_cons, List.map_nil]); first | done | rfl | (simp only [List.length_drop, List.length_take]; rfl)) ?_; (with_reducible refine (customsref04_NextWorking.calls kj19 _ _ l0 t382 t384 t385 _ ?side1 ?side2 A29.out).mono ?_); (case side1 => repeat (first | exact (Kd.C_below HR0.out (by repeat (first | (with_reducible first | exact HB.out | apply below_alloc | apply pw_below_drewN | apply below_drew1 | refine below_set ?_ GE373.out) | exact HB.out))) | (with_reducible refine Kd.C_alloc ?_ _) | (with_reducible refine Kd.C_drewN ?_ _) | (with_reducible refine Kd.C_drew ?_))); (case side2 => exact HC0.out); rintro e w' ⟨rfl, ⟨nd, rfl⟩⟩; refine ⟨_, rfl, ?_⟩))
         go_ret2
         exact ⟨by first | rfl | (simp [errW_none, errW_some] <;> rfl) | (simp [*, errW_none, errW_some] <;> rfl), by repeat (first | (with_reducible first | exact HB.out | apply below_alloc | apply pw_below_drewN | apply below_drew1 | refine below_set ?_ GE373.out) | exact HB.out)⟩
        ·
         rw [if_neg c28] at H
         have c28b0 : (t383 == 0) = false := beq_eq_false_iff_ne.mpr c28
         have c28b1 : (t383 != 0) = true := bne_iff_ne.mpr c28
         simp only [Option.some.injEq, Prod.mk.injEq] at H
         obtain ⟨rfl, rfl⟩ := H
         have hcz31_0 : wc.cell? ⟨gb373, 0, none⟩ = some (.int .i64 a2_0) := (blk_cell BK373.out 0).trans rfl
         have hcz31_1 : wc.cell? ⟨gb373, 1, none⟩ = some (.int .i64 a2_1) := (blk_cell BK373.out 1).trans rfl
         have hcz31_2 : wc.cell? ⟨gb373, 2, none⟩ = some (.int .i64 a2_2) := (blk_cell BK373.out 2).trans rfl
         have hfz31_0 := blk_frozen BK373.out 0
         have hfz31_1 := blk_frozen BK373.out 1
         have hfz31_2 := blk_frozen BK373.out 2
         (try (have hpz31_1 : ∀ v0_ v1_ : Value, ((wc.setCell ⟨gb373, 0, none⟩ v0_).setCell ⟨gb373, 1, none⟩ v1_).cell? ⟨gb373, 1, none⟩ = some v1_ := by (intros; go_simp)))
         (try (have hpz31_2 : ∀ v0_ v1_ v2_ : Value, (((wc.setCell ⟨gb373, 0, none⟩ v0_).setCell ⟨gb373, 1, none⟩ v1_).setCell ⟨gb373, 2, none⟩ v2_).cell? ⟨gb373, 2, none⟩ = some v2_ := by (intros; go_simp)))
         go_wp2_with (first | ((with_reducible refine gate_callee (f := 43) rfl ?_); refine goesL_ (some 62) rfl rfl Tryd.func43 (by kernel_rfl) rfl #[.slice A0 l0.length c0, .int .i64 (wrap64 (t379 + a2_1)), .int .i64 a2_2] rfl (by (try simp only [List.map_toArray, List.map_cons, List.map_nil]); first | done | rfl | (simp only [List.length_drop, List.length_take]; rfl)) ?_; (with_reducible refine (customsref04_AddWorking.calls kj19 _ _ l0 (wrap64 (t379 + a2_1)) a2_2 t382 t383 _ ?side1 ?side2 A27.out).mono ?_); (case side1 => repeat (first | exact (Kd.C_below HR0.out HB.out) | (with_reducible refine Kd.C_alloc ?_ _) | (with_reducible refine Kd.C_drewN ?_ _) | (with_reducible refine Kd.C_drew ?_))); (case side2 => exact HC0.out); rintro e w' ⟨rfl, ⟨nd, rfl⟩⟩; refine ⟨_, rfl, ?_⟩))
         go_ret2
         exact ⟨by first | rfl | (simp [errW_none, errW_some] <;> rfl) | (simp [*, errW_none, errW_some] <;> rfl), by repeat (first | (with_reducible first | exact HB.out | apply below_alloc | apply pw_below_drewN | apply below_drew1 | refine below_set ?_ GE373.out) | exact HB.out)⟩
 ·
  rw [if_neg c5] at H
  have c5b0 : (t374 == 0) = false := beq_eq_false_iff_ne.mpr c5
  have c5b1 : (t374 != 0) = true := bne_iff_ne.mpr c5
  simp only [Option.some.injEq, Prod.mk.injEq] at H
  obtain ⟨rfl, rfl⟩ := H
  go_enter Tryd.func31, Tryd.ntmps31
  go_wp2_with (first | ((with_reducible refine gate_dst (N := 5) rfl ?_); refine box_event ?hg (N := 5) ?hd (cs := #[.int .i64 a2_0, .int .i64 a2_1, .int .i64 a2_2]) (t := 46) ?hr ?_; (case hd => rfl); (case hg => rfl); (case hr => first | (go_simp; done) | (go_simp; rfl)); intro gb373 hg w32 hbox hb; have n0_ := Aside0.mk (below_step (by repeat (first | (with_reducible first | exact HB.out | apply below_alloc | apply pw_below_drewN | apply below_drew1) | exact HB.out)) hb); have n1_ := Aside0.mk (hbox); have n2_ := Aside0.mk ((by rw [hg]; exact (below_size (by repeat (first | (with_reducible first | exact HB.out | apply below_alloc | apply pw_below_drewN | apply below_drew1) | exact HB.out))) : w.heap.size ≤ gb373)); have n3_ := Aside0.mk ((by rw [hg]; exact (below_size (by repeat (first | (with_reducible first | exact HB.out | apply below_alloc | apply pw_below_drewN | apply below_drew1) | exact HB.out))) : w.heap.size ≤ gb373)); clear HB; have HB := n0_; have BK373 := n1_; have GW373 := n2_; have GE373 := n3_; clear n0_ n1_ n2_ n3_; clear hb hbox hg) | ((with_reducible refine gate_callee (f := 39) rfl ?_); refine goesL_ (some 12) rfl rfl Tryd.func39 (by kernel_rfl) rfl #[.slice A0 l0.length c0] rfl (by (try simp only [List.map_toArray, List.map_cons, List.map_nil]); first | done | rfl | (simp only [List.length_drop, List.length_take]; rfl)) ?_; (with_reducible refine (customsref04_Valid.calls k _ _ l0 t374 _ ?side1 ?side2 A4.out).mono ?_); (case side1 => repeat (first | exact (Kd.C_below HR0.out HB.out) | (with_reducible refine Kd.C_alloc ?_ _) | (with_reducible refine Kd.C_drewN ?_ _) | (with_reducible refine Kd.C_drew ?_))); (case side2 => exact HC0.out); rintro e w' ⟨rfl, ⟨nd, rfl⟩⟩; refine ⟨_, rfl, ?_⟩))
  go_ret2
  exact ⟨by first | rfl | (simp [errW_none, errW_some] <;> rfl) | (simp [*, errW_none, errW_some] <;> rfl), by repeat (first | (with_reducible first | exact HB.out | apply below_alloc | apply pw_below_drewN | apply below_drew1 | refine below_set ?_ GE373.out) | exact HB.out)⟩

def customsref24_Deadline.f (k : Nat) (a0 : Int) (a1 : Int) (l2 : List Int) : Option (Int × Bool) := if a0 = 1 then ((customsref04_Deadline.f k l2 a1 0 90 0).bind fun bt387 => (some (bt387.1, (bt387.2 == 0)))) else (if a0 = 2 then ((customsref04_Deadline.f k l2 a1 0 8 0).bind fun bt389 => (some (bt389.1, (bt389.2 == 0)))) else (if a0 = 4 then ((customsref04_Deadline.f k l2 a1 6 0 0).bind fun bt391 => (some (bt391.1, (bt391.2 == 0)))) else (if a0 = 5 then ((customsref04_Deadline.f k l2 a1 24 0 0).bind fun bt393 => (some (bt393.1, (bt393.2 == 0)))) else (if a0 = 7 then ((customsref04_Deadline.f k l2 a1 12 0 0).bind fun bt395 => (some (bt395.1, (bt395.2 == 0)))) else (some (0, false))))))
set_option maxHeartbeats 8000000 in
set_option maxRecDepth 100000 in
theorem customsref24_Deadline.calls (k : Nat) (a0 : Int) (a1 : Int) (A2 : Option Addr) (c2 : Nat) (l2 : List Int) (r1 : Int) (r2 : Bool) (w : World) (hr2 : Kd.C (Kd.int .i64) w A2 l2.length l2) (hc2 : l2.length ≤ c2) (h : customsref24_Deadline.f k a0 a1 l2 = some (r1, r2)) :
  Calls Tryd.prog 23 #[.int .i64 a0, .int .i64 a1, .slice A2 l2.length c2] w fun e w' => e = .returned (.tuple #[.int .i64 r1, .bool r2]) ∧ Below w.heap.size w w' := by
 have hu46 := Tryd.underlying46
 have HR2 := Aside0.mk hr2
 have HC2 := Aside0.mk hc2
 clear hr2 hc2
 have HB := Aside0.mk (Below.refl w.heap.size w)
 have H : (if a0 = 1 then ((customsref04_Deadline.f k l2 a1 0 90 0).bind fun bt387 => (some (bt387.1, (bt387.2 == 0)))) else (if a0 = 2 then ((customsref04_Deadline.f k l2 a1 0 8 0).bind fun bt389 => (some (bt389.1, (bt389.2 == 0)))) else (if a0 = 4 then ((customsref04_Deadline.f k l2 a1 6 0 0).bind fun bt391 => (some (bt391.1, (bt391.2 == 0)))) else (if a0 = 5 then ((customsref04_Deadline.f k l2 a1 24 0 0).bind fun bt393 => (some (bt393.1, (bt393.2 == 0)))) else (if a0 = 7 then ((customsref04_Deadline.f k l2 a1 12 0 0).bind fun bt395 => (some (bt395.1, (bt395.2 == 0)))) else (some (0, false))))))) = some (r1, r2) := h
 clear h
 by_cases c4 : a0 = 1
 ·
  rw [if_pos c4] at H
  have c4b0 : (a0 == 1) = true := beq_iff_eq.mpr c4
  have c4b1 : (a0 != 1) = false := bne_eq_false_iff_eq.mpr c4
  clear c4
  replace H := Option.bind_eq_some_iff.mp H
  obtain ⟨⟨t387, t388⟩, A50, H⟩ := H
  replace H : (some (t387, (t388 == 0))) = some (r1, r2) := H
  have A5 := Aside0.mk A50
  clear A50
  simp only [Option.some.injEq, Prod.mk.injEq] at H
  obtain ⟨rfl, rfl⟩ := H
  go_enter Tryd.func23, Tryd.ntmps23
  go_wp2_with (first | ((with_reducible refine gate_dst (N := 8) rfl ?_); refine box_event ?hg (N := 8) ?hd (cs := #[.int .i64 0, .int .i64 0, .int .i64 0]) (t := 46) ?hr ?_; (case hd => rfl); (case hg => rfl); (case hr => first | (go_simp; done) | (go_simp; rfl)); intro gb386 hg w6 hbox hb; have n0_ := Aside0.mk (below_step (by repeat (first | (with_reducible first | exact HB.out | apply below_alloc | apply pw_below_drewN | apply below_drew1) | exact HB.out)) hb); have n1_ := Aside0.mk (hbox); have n2_ := Aside0.mk ((by rw [hg]; exact (below_size (by repeat (first | (with_reducible first | exact HB.out | apply below_alloc | apply pw_below_drewN | apply below_drew1) | exact HB.out))) : w.heap.size ≤ gb386)); have n3_ := Aside0.mk ((by rw [hg]; exact (below_size (by repeat (first | (with_reducible first | exact HB.out | apply below_alloc | apply pw_below_drewN | apply below_drew1) | exact HB.out))) : w.heap.size ≤ gb386)); clear HB; have HB := n0_; have BK386 := n1_; have GW386 := n2_; have GE386 := n3_; clear n0_ n1_ n2_ n3_; clear hb hbox hg; have hcz7_0 : w6.cell? ⟨gb386, 0, none⟩ = some (.int .i64 0) := (blk_cell BK386.out 0).trans rfl; have hcz7_1 : w6.cell? ⟨gb386, 1, none⟩ = some (.int .i64 0) := (blk_cell BK386.out 1).trans rfl; have hcz7_2 : w6.cell? ⟨gb386, 2, none⟩ = some (.int .i64 0) := (blk_cell BK386.out 2).trans rfl; have hfz7_0 := blk_frozen BK386.out 0; have hfz7_1 := blk_frozen BK386.out 1; have hfz7_2 := blk_frozen BK386.out 2; (try (have hpz7_1 : ∀ v0_ v1_ : Value, ((w6.setCell ⟨gb386, 0, none⟩ v0_).setCell ⟨gb386, 1, none⟩ v1_).cell? ⟨gb386, 1, none⟩ = some v1_ := by (intros; go_simp))); (try (have hpz7_2 : ∀ v0_ v1_ v2_ : Value, (((w6.setCell ⟨gb386, 0, none⟩ v0_).setCell ⟨gb386, 1, none⟩ v1_).setCell ⟨gb386, 2, none⟩ v2_).cell? ⟨gb386, 2, none⟩ = some v2_ := by (intros; go_simp)))) | ((with_reducible refine gate_callee (f := 31) rfl ?_); refine goesL_ (some 32) rfl rfl Tryd.func31 (by kernel_rfl) rfl #[.slice A2 l2.length c2, .int .i64 a1, .agg #[.int .i64 0, .int .i64 90, .int .i64 0]] rfl (by (try simp only [List.map_toArray, List.map_cons, List.map_nil]); first | done | rfl | (simp only [List.length_drop, List.length_take]; rfl)) ?_; (with_reducible refine (customsref04_Deadline.calls k _ _ l2 a1 0 90 0 t387 t388 _ ?side1 ?side2 A5.out).mono ?_); (case side1 => exact Kd.C_below HR2.out (by repeat (first | (with_reducible first | exact HB.out | apply below_alloc | apply pw_below_drewN | apply below_drew1 | refine below_set ?_ GE386.out) | exact HB.out))); (case side2 => exact HC2.out); rintro e w8 ⟨rfl, hb⟩; refine ⟨_, rfl, ?_⟩; have n0_ := Aside0.mk (blk_below (g := gb386) (o := .cells #[.int .i64 0, .int .i64 90, .int .i64 0] 46 (0, 0)) (by (with_reducible repeat (first | refine blk_drewN ?_ _ | refine blk_drew ?_ | refine blk_alloc ?_ _)); refine blk_put (cs := #[.int .i64 0, .int .i64 0, .int .i64 0]) ?_ 1 _ rfl; (with_reducible repeat (first | refine blk_drewN ?_ _ | refine blk_drew ?_ | refine blk_alloc ?_ _)); refine blk_put (cs := #[.int .i64 0, .int .i64 0, .int .i64 0]) ?_ 2 _ rfl; (with_reducible repeat (first | refine blk_drewN ?_ _ | refine blk_drew ?_ | refine blk_alloc ?_ _)); refine blk_put (cs := #[.int .i64 0, .int .i64 0, .int .i64 0]) ?_ 1 _ rfl; (with_reducible repeat (first | refine blk_drewN ?_ _ | refine blk_drew ?_ | refine blk_alloc ?_ _)); refine blk_put (cs := #[.int .i64 0, .int .i64 0, .int .i64 0]) ?_ 0 _ rfl; (with_reducible repeat (first | refine blk_drewN ?_ _ | refine blk_drew ?_ | refine blk_alloc ?_ _)); exact BK386.out) hb); have n1_ := Aside0.mk (below_step (by repeat (first | (with_reducible first | exact HB.out | apply below_alloc | apply pw_below_drewN | apply below_drew1 | refine below_set ?_ GE386.out) | exact HB.out)) hb); clear BK386; clear HB; have BK386 := n0_; have HB := n1_; clear n0_ n1_; (try clear hb); (try clear hb2); (try clear hk); (try clear hi)))
  go_ret2
  exact ⟨by first | rfl | (simp [errW_none, errW_some] <;> rfl) | (simp [*, errW_none, errW_some] <;> rfl), by repeat (first | (with_reducible first | exact HB.out | apply below_alloc | apply pw_below_drewN | apply below_drew1 | refine below_set ?_ GE386.out) | exact HB.out)⟩
 ·
  rw [if_neg c4] at H
  have c4b0 : (a0 == 1) = false := beq_eq_false_iff_ne.mpr c4
  have c4b1 : (a0 != 1) = true := bne_iff_ne.mpr c4
  by_cases c9 : a0 = 2
  ·
   rw [if_pos c9] at H
   have c9b0 : (a0 == 2) = true := beq_iff_eq.mpr c9
   have c9b1 : (a0 != 2) = false := bne_eq_false_iff_eq.mpr c9
   clear c9
   replace H := Option.bind_eq_some_iff.mp H
   obtain ⟨⟨t389, t390⟩, A100, H⟩ := H
   replace H : (some (t389, (t390 == 0))) = some (r1, r2) := H
   have A10 := Aside0.mk A100
   clear A100
   simp only [Option.some.injEq, Prod.mk.injEq] at H
   obtain ⟨rfl, rfl⟩ := H
   go_enter Tryd.func23, Tryd.ntmps23
   go_wp2_with (first | ((with_reducible refine gate_dst (N := 8) rfl ?_); refine box_event ?hg (N := 8) ?hd (cs := #[.int .i64 0, .int .i64 0, .int .i64 0]) (t := 46) ?hr ?_; (case hd => rfl); (case hg => rfl); (case hr => first | (go_simp; done) | (go_simp; rfl)); intro gb386 hg w11 hbox hb; have n0_ := Aside0.mk (below_step (by repeat (first | (with_reducible first | exact HB.out | apply below_alloc | apply pw_below_drewN | apply below_drew1) | exact HB.out)) hb); have n1_ := Aside0.mk (hbox); have n2_ := Aside0.mk ((by rw [hg]; exact (below_size (by repeat (first | (with_reducible first | exact HB.out | apply below_alloc | apply pw_below_drewN | apply below_drew1) | exact HB.out))) : w.heap.size ≤ gb386)); have n3_ := Aside0.mk ((by rw [hg]; exact (below_size (by repeat (first | (with_reducible first | exact HB.out | apply below_alloc | apply pw_below_drewN | apply below_drew1) | exact HB.out))) : w.heap.size ≤ gb386)); clear HB; have HB := n0_; have BK386 := n1_; have GW386 := n2_; have GE386 := n3_; clear n0_ n1_ n2_ n3_; clear hb hbox hg; have hcz12_0 : w11.cell? ⟨gb386, 0, none⟩ = some (.int .i64 0) := (blk_cell BK386.out 0).trans rfl; have hcz12_1 : w11.cell? ⟨gb386, 1, none⟩ = some (.int .i64 0) := (blk_cell BK386.out 1).trans rfl; have hcz12_2 : w11.cell? ⟨gb386, 2, none⟩ = some (.int .i64 0) := (blk_cell BK386.out 2).trans rfl; have hfz12_0 := blk_frozen BK386.out 0; have hfz12_1 := blk_frozen BK386.out 1; have hfz12_2 := blk_frozen BK386.out 2; (try (have hpz12_1 : ∀ v0_ v1_ : Value, ((w11.setCell ⟨gb386, 0, none⟩ v0_).setCell ⟨gb386, 1, none⟩ v1_).cell? ⟨gb386, 1, none⟩ = some v1_ := by (intros; go_simp))); (try (have hpz12_2 : ∀ v0_ v1_ v2_ : Value, (((w11.setCell ⟨gb386, 0, none⟩ v0_).setCell ⟨gb386, 1, none⟩ v1_).setCell ⟨gb386, 2, none⟩ v2_).cell? ⟨gb386, 2, none⟩ = some v2_ := by (intros; go_simp)))) | ((with_reducible refine gate_callee (f := 31) rfl ?_); refine goesL_ (some 32) rfl rfl Tryd.func31 (by kernel_rfl) rfl #[.slice A2 l2.length c2, .int .i64 a1, .agg #[.int .i64 0, .int .i64 8, .int .i64 0]] rfl (by (try simp only [List.map_toArray, List.map_cons, List.map_nil]); first | done | rfl | (simp only [List.length_drop, List.length_take]; rfl)) ?_; (with_reducible refine (customsref04_Deadline.calls k _ _ l2 a1 0 8 0 t389 t390 _ ?side1 ?side2 A10.out).mono ?_); (case side1 => exact Kd.C_below HR2.out (by repeat (first | (with_reducible first | exact HB.out | apply below_alloc | apply pw_below_drewN | apply below_drew1 | refine below_set ?_ GE386.out) | exact HB.out))); (case side2 => exact HC2.out); rintro e w13 ⟨rfl, hb⟩; refine ⟨_, rfl, ?_⟩; have n0_ := Aside0.mk (blk_below (g := gb386) (o := .cells #[.int .i64 0, .int .i64 8, .int .i64 0] 46 (0, 0)) (by (with_reducible repeat (first | refine blk_drewN ?_ _ | refine blk_drew ?_ | refine blk_alloc ?_ _)); refine blk_put (cs := #[.int .i64 0, .int .i64 0, .int .i64 0]) ?_ 1 _ rfl; (with_reducible repeat (first | refine blk_drewN ?_ _ | refine blk_drew ?_ | refine blk_alloc ?_ _)); refine blk_put (cs := #[.int .i64 0, .int .i64 0, .int .i64 0]) ?_ 2 _ rfl; (with_reducible repeat (first | refine blk_drewN ?_ _ | refine blk_drew ?_ | refine blk_alloc ?_ _)); refine blk_put (cs := #[.int .i64 0, .int .i64 0, .int .i64 0]) ?_ 1 _ rfl; (with_reducible repeat (first | refine blk_drewN ?_ _ | refine blk_drew ?_ | refine blk_alloc ?_ _)); refine blk_put (cs := #[.int .i64 0, .int .i64 0, .int .i64 0]) ?_ 0 _ rfl; (with_reducible repeat (first | refine blk_drewN ?_ _ | refine blk_drew ?_ | refine blk_alloc ?_ _)); exact BK386.out) hb); have n1_ := Aside0.mk (below_step (by repeat (first | (with_reducible first | exact HB.out | apply below_alloc | apply pw_below_drewN | apply below_drew1 | refine below_set ?_ GE386.out) | exact HB.out)) hb); clear BK386; clear HB; have BK386 := n0_; have HB := n1_; clear n0_ n1_; (try clear hb); (try clear hb2); (try clear hk); (try clear hi)))
   go_ret2
   exact ⟨by first | rfl | (simp [errW_none, errW_some] <;> rfl) | (simp [*, errW_none, errW_some] <;> rfl), by repeat (first | (with_reducible first | exact HB.out | apply below_alloc | apply pw_below_drewN | apply below_drew1 | refine below_set ?_ GE386.out) | exact HB.out)⟩
  ·
   rw [if_neg c9] at H
   have c9b0 : (a0 == 2) = false := beq_eq_false_iff_ne.mpr c9
   have c9b1 : (a0 != 2) = true := bne_iff_ne.mpr c9
   by_cases c14 : a0 = 4
   ·
    rw [if_pos c14] at H
    have c14b0 : (a0 == 4) = true := beq_iff_eq.mpr c14
    have c14b1 : (a0 != 4) = false := bne_eq_false_iff_eq.mpr c14
    clear c14
    replace H := Option.bind_eq_some_iff.mp H
    obtain ⟨⟨t391, t392⟩, A150, H⟩ := H
    replace H : (some (t391, (t392 == 0))) = some (r1, r2) := H
    have A15 := Aside0.mk A150
    clear A150
    simp only [Option.some.injEq, Prod.mk.injEq] at H
    obtain ⟨rfl, rfl⟩ := H
    go_enter Tryd.func23, Tryd.ntmps23
    go_wp2_with (first | ((with_reducible refine gate_dst (N := 8) rfl ?_); refine box_event ?hg (N := 8) ?hd (cs := #[.int .i64 0, .int .i64 0, .int .i64 0]) (t := 46) ?hr ?_; (case hd => rfl); (case hg => rfl); (case hr => first | (go_simp; done) | (go_simp; rfl)); intro gb386 hg w16 hbox hb; have n0_ := Aside0.mk (below_step (by repeat (first | (with_reducible first | exact HB.out | apply below_alloc | apply pw_below_drewN | apply below_drew1) | exact HB.out)) hb); have n1_ := Aside0.mk (hbox); have n2_ := Aside0.mk ((by rw [hg]; exact (below_size (by repeat (first | (with_reducible first | exact HB.out | apply below_alloc | apply pw_below_drewN | apply below_drew1) | exact HB.out))) : w.heap.size ≤ gb386)); have n3_ := Aside0.mk ((by rw [hg]; exact (below_size (by repeat (first | (with_reducible first | exact HB.out | apply below_alloc | apply pw_below_drewN | apply below_drew1) | exact HB.out))) : w.heap.size ≤ gb386)); clear HB; have HB := n0_; have BK386 := n1_; have GW386 := n2_; have GE386 := n3_; clear n0_ n1_ n2_ n3_; clear hb hbox hg; have hcz17_0 : w16.cell? ⟨gb386, 0, none⟩ = some (.int .i64 0) := (blk_cell BK386.out 0).trans rfl; have hcz17_1 : w16.cell? ⟨gb386, 1, none⟩ = some (.int .i64 0) := (blk_cell BK386.out 1).trans rfl; have hcz17_2 : w16.cell? ⟨gb386, 2, none⟩ = some (.int .i64 0) := (blk_cell BK386.out 2).trans rfl; have hfz17_0 := blk_frozen BK386.out 0; have hfz17_1 := blk_frozen BK386.out 1; have hfz17_2 := blk_frozen BK386.out 2; (try (have hpz17_1 : ∀ v0_ v1_ : Value, ((w16.setCell ⟨gb386, 0, none⟩ v0_).setCell ⟨gb386, 1, none⟩ v1_).cell? ⟨gb386, 1, none⟩ = some v1_ := by (intros; go_simp))); (try (have hpz17_2 : ∀ v0_ v1_ v2_ : Value, (((w16.setCell ⟨gb386, 0, none⟩ v0_).setCell ⟨gb386, 1, none⟩ v1_).setCell ⟨gb386, 2, none⟩ v2_).cell? ⟨gb386, 2, none⟩ = some v2_ := by (intros; go_simp)))) | ((with_reducible refine gate_callee (f := 31) rfl ?_); refine goesL_ (some 32) rfl rfl Tryd.func31 (by kernel_rfl) rfl #[.slice A2 l2.length c2, .int .i64 a1, .agg #[.int .i64 6, .int .i64 0, .int .i64 0]] rfl (by (try simp only [List.map_toArray, List.map_cons, List.map_nil]); first | done | rfl | (simp only [List.length_drop, List.length_take]; rfl)) ?_; (with_reducible refine (customsref04_Deadline.calls k _ _ l2 a1 6 0 0 t391 t392 _ ?side1 ?side2 A15.out).mono ?_); (case side1 => exact Kd.C_below HR2.out (by repeat (first | (with_reducible first | exact HB.out | apply below_alloc | apply pw_below_drewN | apply below_drew1 | refine below_set ?_ GE386.out) | exact HB.out))); (case side2 => exact HC2.out); rintro e w18 ⟨rfl, hb⟩; refine ⟨_, rfl, ?_⟩; have n0_ := Aside0.mk (blk_below (g := gb386) (o := .cells #[.int .i64 6, .int .i64 0, .int .i64 0] 46 (0, 0)) (by (with_reducible repeat (first | refine blk_drewN ?_ _ | refine blk_drew ?_ | refine blk_alloc ?_ _)); refine blk_put (cs := #[.int .i64 0, .int .i64 0, .int .i64 0]) ?_ 0 _ rfl; (with_reducible repeat (first | refine blk_drewN ?_ _ | refine blk_drew ?_ | refine blk_alloc ?_ _)); refine blk_put (cs := #[.int .i64 0, .int .i64 0, .int .i64 0]) ?_ 2 _ rfl; (with_reducible repeat (first | refine blk_drewN ?_ _ | refine blk_drew ?_ | refine blk_alloc ?_ _)); refine blk_put (cs := #[.int .i64 0, .int .i64 0, .int .i64 0]) ?_ 1 _ rfl; (with_reducible repeat (first | refine blk_drewN ?_ _ | refine blk_drew ?_ | refine blk_alloc ?_ _)); refine blk_put (cs := #[.int .i64 0, .int .i64 0, .int .i64 0]) ?_ 0 _ rfl; (with_reducible repeat (first | refine blk_drewN ?_ _ | refine blk_drew ?_ | refine blk_alloc ?_ _)); exact BK386.out) hb); have n1_ := Aside0.mk (below_step (by repeat (first | (with_reducible first | exact HB.out | apply below_alloc | apply pw_below_drewN | apply below_drew1 | refine below_set ?_ GE386.out) | exact HB.out)) hb); clear BK386; clear HB; have BK386 := n0_; have HB := n1_; clear n0_ n1_; (try clear hb); (try clear hb2); (try clear hk); (try clear hi)))
    go_ret2
    exact ⟨by first | rfl | (simp [errW_none, errW_some] <;> rfl) | (simp [*, errW_none, errW_some] <;> rfl), by repeat (first | (with_reducible first | exact HB.out | apply below_alloc | apply pw_below_drewN | apply below_drew1 | refine below_set ?_ GE386.out) | exact HB.out)⟩
   ·
    rw [if_neg c14] at H
    have c14b0 : (a0 == 4) = false := beq_eq_false_iff_ne.mpr c14
    have c14b1 : (a0 != 4) = true := bne_iff_ne.mpr c14
    by_cases c19 : a0 = 5
    ·
     rw [if_pos c19] at H
     have c19b0 : (a0 == 5) = true := beq_iff_eq.mpr c19
     have c19b1 : (a0 != 5) = false := bne_eq_false_iff_eq.mpr c19
     clear c19
     replace H := Option.bind_eq_some_iff.mp H
     obtain ⟨⟨t393, t394⟩, A200, H⟩ := H
     replace H : (some (t393, (t394 == 0))) = some (r1, r2) := H
     have A20 := Aside0.mk A200
     clear A200
     simp only [Option.some.injEq, Prod.mk.injEq] at H
     obtain ⟨rfl, rfl⟩ := H
     go_enter Tryd.func23, Tryd.ntmps23
     go_wp2_with (first | ((with_reducible refine gate_dst (N := 8) rfl ?_); refine box_event ?hg (N := 8) ?hd (cs := #[.int .i64 0, .int .i64 0, .int .i64 0]) (t := 46) ?hr ?_; (case hd => rfl); (case hg => rfl); (case hr => first | (go_simp; done) | (go_simp; rfl)); intro gb386 hg w21 hbox hb; have n0_ := Aside0.mk (below_step (by repeat (first | (with_reducible first | exact HB.out | apply below_alloc | apply pw_below_drewN | apply below_drew1) | exact HB.out)) hb); have n1_ := Aside0.mk (hbox); have n2_ := Aside0.mk ((by rw [hg]; exact (below_size (by repeat (first | (with_reducible first | exact HB.out | apply below_alloc | apply pw_below_drewN | apply below_drew1) | exact HB.out))) : w.heap.size ≤ gb386)); have n3_ := Aside0.mk ((by rw [hg]; exact (below_size (by repeat (first | (with_reducible first | exact HB.out | apply below_alloc | apply pw_below_drewN | apply below_drew1) | exact HB.out))) : w.heap.size ≤ gb386)); clear HB; have HB := n0_; have BK386 := n1_; have GW386 := n2_; have GE386 := n3_; clear n0_ n1_ n2_ n3_; clear hb hbox hg; have hcz22_0 : w21.cell? ⟨gb386, 0, none⟩ = some (.int .i64 0) := (blk_cell BK386.out 0).trans rfl; have hcz22_1 : w21.cell? ⟨gb386, 1, none⟩ = some (.int .i64 0) := (blk_cell BK386.out 1).trans rfl; have hcz22_2 : w21.cell? ⟨gb386, 2, none⟩ = some (.int .i64 0) := (blk_cell BK386.out 2).trans rfl; have hfz22_0 := blk_frozen BK386.out 0; have hfz22_1 := blk_frozen BK386.out 1; have hfz22_2 := blk_frozen BK386.out 2; (try (have hpz22_1 : ∀ v0_ v1_ : Value, ((w21.setCell ⟨gb386, 0, none⟩ v0_).setCell ⟨gb386, 1, none⟩ v1_).cell? ⟨gb386, 1, none⟩ = some v1_ := by (intros; go_simp))); (try (have hpz22_2 : ∀ v0_ v1_ v2_ : Value, (((w21.setCell ⟨gb386, 0, none⟩ v0_).setCell ⟨gb386, 1, none⟩ v1_).setCell ⟨gb386, 2, none⟩ v2_).cell? ⟨gb386, 2, none⟩ = some v2_ := by (intros; go_simp)))) | ((with_reducible refine gate_callee (f := 31) rfl ?_); refine goesL_ (some 32) rfl rfl Tryd.func31 (by kernel_rfl) rfl #[.slice A2 l2.length c2, .int .i64 a1, .agg #[.int .i64 24, .int .i64 0, .int .i64 0]] rfl (by (try simp only [List.map_toArray, List.map_cons, List.map_nil]); first | done | rfl | (simp only [List.length_drop, List.length_take]; rfl)) ?_; (with_reducible refine (customsref04_Deadline.calls k _ _ l2 a1 24 0 0 t393 t394 _ ?side1 ?side2 A20.out).mono ?_); (case side1 => exact Kd.C_below HR2.out (by repeat (first | (with_reducible first | exact HB.out | apply below_alloc | apply pw_below_drewN | apply below_drew1 | refine below_set ?_ GE386.out) | exact HB.out))); (case side2 => exact HC2.out); rintro e w23 ⟨rfl, hb⟩; refine ⟨_, rfl, ?_⟩; have n0_ := Aside0.mk (blk_below (g := gb386) (o := .cells #[.int .i64 24, .int .i64 0, .int .i64 0] 46 (0, 0)) (by (with_reducible repeat (first | refine blk_drewN ?_ _ | refine blk_drew ?_ | refine blk_alloc ?_ _)); refine blk_put (cs := #[.int .i64 0, .int .i64 0, .int .i64 0]) ?_ 0 _ rfl; (with_reducible repeat (first | refine blk_drewN ?_ _ | refine blk_drew ?_ | refine blk_alloc ?_ _)); refine blk_put (cs := #[.int .i64 0, .int .i64 0, .int .i64 0]) ?_ 2 _ rfl; (with_reducible repeat (first | refine blk_drewN ?_ _ | refine blk_drew ?_ | refine blk_alloc ?_ _)); refine blk_put (cs := #[.int .i64 0, .int .i64 0, .int .i64 0]) ?_ 1 _ rfl; (with_reducible repeat (first | refine blk_drewN ?_ _ | refine blk_drew ?_ | refine blk_alloc ?_ _)); refine blk_put (cs := #[.int .i64 0, .int .i64 0, .int .i64 0]) ?_ 0 _ rfl; (with_reducible repeat (first | refine blk_drewN ?_ _ | refine blk_drew ?_ | refine blk_alloc ?_ _)); exact BK386.out) hb); have n1_ := Aside0.mk (below_step (by repeat (first | (with_reducible first | exact HB.out | apply below_alloc | apply pw_below_drewN | apply below_drew1 | refine below_set ?_ GE386.out) | exact HB.out)) hb); clear BK386; clear HB; have BK386 := n0_; have HB := n1_; clear n0_ n1_; (try clear hb); (try clear hb2); (try clear hk); (try clear hi)))
     go_ret2
     exact ⟨by first | rfl | (simp [errW_none, errW_some] <;> rfl) | (simp [*, errW_none, errW_some] <;> rfl), by repeat (first | (with_reducible first | exact HB.out | apply below_alloc | apply pw_below_drewN | apply below_drew1 | refine below_set ?_ GE386.out) | exact HB.out)⟩
    ·
     rw [if_neg c19] at H
     have c19b0 : (a0 == 5) = false := beq_eq_false_iff_ne.mpr c19
     have c19b1 : (a0 != 5) = true := bne_iff_ne.mpr c19
     by_cases c24 : a0 = 7
     ·
      rw [if_pos c24] at H
      have c24b0 : (a0 == 7) = true := beq_iff_eq.mpr c24
      have c24b1 : (a0 != 7) = false := bne_eq_false_iff_eq.mpr c24
      clear c24
      replace H := Option.bind_eq_some_iff.mp H
      obtain ⟨⟨t395, t396⟩, A250, H⟩ := H
      replace H : (some (t395, (t396 == 0))) = some (r1, r2) := H
      have A25 := Aside0.mk A250
      clear A250
      simp only [Option.some.injEq, Prod.mk.injEq] at H
      obtain ⟨rfl, rfl⟩ := H
      go_enter Tryd.func23, Tryd.ntmps23
      go_wp2_with (first | ((with_reducible refine gate_dst (N := 8) rfl ?_); refine box_event ?hg (N := 8) ?hd (cs := #[.int .i64 0, .int .i64 0, .int .i64 0]) (t := 46) ?hr ?_; (case hd => rfl); (case hg => rfl); (case hr => first | (go_simp; done) | (go_simp; rfl)); intro gb386 hg w26 hbox hb; have n0_ := Aside0.mk (below_step (by repeat (first | (with_reducible first | exact HB.out | apply below_alloc | apply pw_below_drewN | apply below_drew1) | exact HB.out)) hb); have n1_ := Aside0.mk (hbox); have n2_ := Aside0.mk ((by rw [hg]; exact (below_size (by repeat (first | (with_reducible first | exact HB.out | apply below_alloc | apply pw_below_drewN | apply below_drew1) | exact HB.out))) : w.heap.size ≤ gb386)); have n3_ := Aside0.mk ((by rw [hg]; exact (below_size (by repeat (first | (with_reducible first | exact HB.out | apply below_alloc | apply pw_below_drewN | apply below_drew1) | exact HB.out))) : w.heap.size ≤ gb386)); clear HB; have HB := n0_; have BK386 := n1_; have GW386 := n2_; have GE386 := n3_; clear n0_ n1_ n2_ n3_; clear hb hbox hg; have hcz27_0 : w26.cell? ⟨gb386, 0, none⟩ = some (.int .i64 0) := (blk_cell BK386.out 0).trans rfl; have hcz27_1 : w26.cell? ⟨gb386, 1, none⟩ = some (.int .i64 0) := (blk_cell BK386.out 1).trans rfl; have hcz27_2 : w26.cell? ⟨gb386, 2, none⟩ = some (.int .i64 0) := (blk_cell BK386.out 2).trans rfl; have hfz27_0 := blk_frozen BK386.out 0; have hfz27_1 := blk_frozen BK386.out 1; have hfz27_2 := blk_frozen BK386.out 2; (try (have hpz27_1 : ∀ v0_ v1_ : Value, ((w26.setCell ⟨gb386, 0, none⟩ v0_).setCell ⟨gb386, 1, none⟩ v1_).cell? ⟨gb386, 1, none⟩ = some v1_ := by (intros; go_simp))); (try (have hpz27_2 : ∀ v0_ v1_ v2_ : Value, (((w26.setCell ⟨gb386, 0, none⟩ v0_).setCell ⟨gb386, 1, none⟩ v1_).setCell ⟨gb386, 2, none⟩ v2_).cell? ⟨gb386, 2, none⟩ = some v2_ := by (intros; go_simp)))) | ((with_reducible refine gate_callee (f := 31) rfl ?_); refine goesL_ (some 32) rfl rfl Tryd.func31 (by kernel_rfl) rfl #[.slice A2 l2.length c2, .int .i64 a1, .agg #[.int .i64 12, .int .i64 0, .int .i64 0]] rfl (by (try simp only [List.map_toArray, List.map_cons, List.map_nil]); first | done | rfl | (simp only [List.length_drop, List.length_take]; rfl)) ?_; (with_reducible refine (customsref04_Deadline.calls k _ _ l2 a1 12 0 0 t395 t396 _ ?side1 ?side2 A25.out).mono ?_); (case side1 => exact Kd.C_below HR2.out (by repeat (first | (with_reducible first | exact HB.out | apply below_alloc | apply pw_below_drewN | apply below_drew1 | refine below_set ?_ GE386.out) | exact HB.out))); (case side2 => exact HC2.out); rintro e w28 ⟨rfl, hb⟩; refine ⟨_, rfl, ?_⟩; have n0_ := Aside0.mk (blk_below (g := gb386) (o := .cells #[.int .i64 12, .int .i64 0, .int .i64 0] 46 (0, 0)) (by (with_reducible repeat (first | refine blk_drewN ?_ _ | refine blk_drew ?_ | refine blk_alloc ?_ _)); refine blk_put (cs := #[.int .i64 0, .int .i64 0, .int .i64 0]) ?_ 0 _ rfl; (with_reducible repeat (first | refine blk_drewN ?_ _ | refine blk_drew ?_ | refine blk_alloc ?_ _)); refine blk_put (cs := #[.int .i64 0, .int .i64 0, .int .i64 0]) ?_ 2 _ rfl; (with_reducible repeat (first | refine blk_drewN ?_ _ | refine blk_drew ?_ | refine blk_alloc ?_ _)); refine blk_put (cs := #[.int .i64 0, .int .i64 0, .int .i64 0]) ?_ 1 _ rfl; (with_reducible repeat (first | refine blk_drewN ?_ _ | refine blk_drew ?_ | refine blk_alloc ?_ _)); refine blk_put (cs := #[.int .i64 0, .int .i64 0, .int .i64 0]) ?_ 0 _ rfl; (with_reducible repeat (first | refine blk_drewN ?_ _ | refine blk_drew ?_ | refine blk_alloc ?_ _)); exact BK386.out) hb); have n1_ := Aside0.mk (below_step (by repeat (first | (with_reducible first | exact HB.out | apply below_alloc | apply pw_below_drewN | apply below_drew1 | refine below_set ?_ GE386.out) | exact HB.out)) hb); clear BK386; clear HB; have BK386 := n0_; have HB := n1_; clear n0_ n1_; (try clear hb); (try clear hb2); (try clear hk); (try clear hi)))
      go_ret2
      exact ⟨by first | rfl | (simp [errW_none, errW_some] <;> rfl) | (simp [*, errW_none, errW_some] <;> rfl), by repeat (first | (with_reducible first | exact HB.out | apply below_alloc | apply pw_below_drewN | apply below_drew1 | refine below_set ?_ GE386.out) | exact HB.out)⟩
     ·
      rw [if_neg c24] at H
      have c24b0 : (a0 == 7) = false := beq_eq_false_iff_ne.mpr c24
      have c24b1 : (a0 != 7) = true := bne_iff_ne.mpr c24
      simp only [Option.some.injEq, Prod.mk.injEq] at H
      obtain ⟨rfl, rfl⟩ := H
      go_enter Tryd.func23, Tryd.ntmps23
      go_wp2_with (first | ((with_reducible refine gate_dst (N := 8) rfl ?_); refine box_event ?hg (N := 8) ?hd (cs := #[.int .i64 0, .int .i64 0, .int .i64 0]) (t := 46) ?hr ?_; (case hd => rfl); (case hg => rfl); (case hr => first | (go_simp; done) | (go_simp; rfl)); intro gb386 hg w29 hbox hb; have n0_ := Aside0.mk (below_step (by repeat (first | (with_reducible first | exact HB.out | apply below_alloc | apply pw_below_drewN | apply below_drew1) | exact HB.out)) hb); have n1_ := Aside0.mk (hbox); have n2_ := Aside0.mk ((by rw [hg]; exact (below_size (by repeat (first | (with_reducible first | exact HB.out | apply below_alloc | apply pw_below_drewN | apply below_drew1) | exact HB.out))) : w.heap.size ≤ gb386)); have n3_ := Aside0.mk ((by rw [hg]; exact (below_size (by repeat (first | (with_reducible first | exact HB.out | apply below_alloc | apply pw_below_drewN | apply below_drew1) | exact HB.out))) : w.heap.size ≤ gb386)); clear HB; have HB := n0_; have BK386 := n1_; have GW386 := n2_; have GE386 := n3_; clear n0_ n1_ n2_ n3_; clear hb hbox hg; have hcz30_0 : w29.cell? ⟨gb386, 0, none⟩ = some (.int .i64 0) := (blk_cell BK386.out 0).trans rfl; have hcz30_1 : w29.cell? ⟨gb386, 1, none⟩ = some (.int .i64 0) := (blk_cell BK386.out 1).trans rfl; have hcz30_2 : w29.cell? ⟨gb386, 2, none⟩ = some (.int .i64 0) := (blk_cell BK386.out 2).trans rfl; have hfz30_0 := blk_frozen BK386.out 0; have hfz30_1 := blk_frozen BK386.out 1; have hfz30_2 := blk_frozen BK386.out 2; (try (have hpz30_1 : ∀ v0_ v1_ : Value, ((w29.setCell ⟨gb386, 0, none⟩ v0_).setCell ⟨gb386, 1, none⟩ v1_).cell? ⟨gb386, 1, none⟩ = some v1_ := by (intros; go_simp))); (try (have hpz30_2 : ∀ v0_ v1_ v2_ : Value, (((w29.setCell ⟨gb386, 0, none⟩ v0_).setCell ⟨gb386, 1, none⟩ v1_).setCell ⟨gb386, 2, none⟩ v2_).cell? ⟨gb386, 2, none⟩ = some v2_ := by (intros; go_simp)))))
      go_ret2
      exact ⟨by first | rfl | (simp [errW_none, errW_some] <;> rfl) | (simp [*, errW_none, errW_some] <;> rfl), by repeat (first | (with_reducible first | exact HB.out | apply below_alloc | apply pw_below_drewN | apply below_drew1 | refine below_set ?_ GE386.out) | exact HB.out)⟩

mutual
def customslaw24_ProcedureDeadline.j0 : Nat → Int → List Int → Int → Bool → Bool → Option (Bool)
 | 0, _, _, _, _, _ => none
 | k + 1, x1, x2, x9, x10, x47 => if x47 = true then (some false) else (if x10 = true then (if x9 ≥ x1 then ((calendar_Working.f k x2 x9).bind fun t407 => (if t407 = true then ((customslaw24_awake.f k).bind fun t408 => (some t408)) else (some false))) else (some false)) else ((customslaw24_awake.f k).bind fun t409 => (some t409)))
def customslaw24_ProcedureDeadline.j1 : Nat → Int → List Int → Int → Bool → Bool → Option (Bool)
 | 0, _, _, _, _, _ => none
 | k + 1, x1, x2, x9, x10, x47 => if x47 = true then (some false) else (if x10 = true then (if x9 ≥ x1 then ((calendar_Working.f k x2 x9).bind fun t414 => (if t414 = true then ((customslaw24_awake.f k).bind fun t415 => (some t415)) else (some false))) else (some false)) else ((customslaw24_awake.f k).bind fun t416 => (some t416)))
def customslaw24_ProcedureDeadline.j2 : Nat → Int → List Int → Int → Bool → Bool → Option (Bool)
 | 0, _, _, _, _, _ => none
 | k + 1, x1, x2, x9, x10, x47 => if x47 = true then (some false) else (if x10 = true then (if x9 ≥ x1 then ((calendar_Working.f k x2 x9).bind fun t426 => (if t426 = true then ((customslaw24_awake.f k).bind fun t427 => (some t427)) else (some false))) else (some false)) else ((customslaw24_awake.f k).bind fun t428 => (some t428)))
def customslaw24_ProcedureDeadline.j3 : Nat → Int → List Int → Int → Bool → Bool → Option (Bool)
 | 0, _, _, _, _, _ => none
 | k + 1, x1, x2, x9, x10, x47 => if x47 = true then (some false) else (if x10 = true then (if x9 ≥ x1 then ((calendar_Working.f k x2 x9).bind fun t433 => (if t433 = true then ((customslaw24_awake.f k).bind fun t434 => (some t434)) else (some false))) else (some false)) else ((customslaw24_awake.f k).bind fun t435 => (some t435)))
end
def customslaw24_ProcedureDeadline.f (k : Nat) (a0 : Int) (a1 : Int) (l2 : List Int) (a3 : Bool) : Option (Bool) := if (l2.length : Int) > 200 then (if 200 ≤ (l2.length : Int) then (if a3 = true then ((procedure_Deadline.f k a0 a1 (l2.take 200)).bind fun bt403 => ((customsref24_Deadline.f k a0 a1 (l2.take 200)).bind fun bt405 => (if bt403.1 = bt405.1 then (customslaw24_ProcedureDeadline.j0 k a1 (l2.take 200) bt403.1 bt403.2 (bt403.2 != bt405.2)) else (customslaw24_ProcedureDeadline.j0 k a1 (l2.take 200) bt403.1 bt403.2 true)))) else ((customsmade_Within.f a0 14).bind fun t398 => ((customsmade_Day.f a1).bind fun t399 => ((customsmade_Holidays.f k (l2.take 200)).bind fun t400 => ((procedure_Deadline.f k t398 t399 t400).bind fun bt410 => ((customsref24_Deadline.f k t398 t399 t400).bind fun bt412 => (if bt410.1 = bt412.1 then (customslaw24_ProcedureDeadline.j1 k t399 t400 bt410.1 bt410.2 (bt410.2 != bt412.2)) else (customslaw24_ProcedureDeadline.j1 k t399 t400 bt410.1 bt410.2 true)))))))) else (none)) else (if a3 = true then ((procedure_Deadline.f k a0 a1 l2).bind fun bt422 => ((customsref24_Deadline.f k a0 a1 l2).bind fun bt424 => (if bt422.1 = bt424.1 then (customslaw24_ProcedureDeadline.j2 k a1 l2 bt422.1 bt422.2 (bt422.2 != bt424.2)) else (customslaw24_ProcedureDeadline.j2 k a1 l2 bt422.1 bt422.2 true)))) else ((customsmade_Within.f a0 14).bind fun t417 => ((customsmade_Day.f a1).bind fun t418 => ((customsmade_Holidays.f k l2).bind fun t419 => ((procedure_Deadline.f k t417 t418 t419).bind fun bt429 => ((customsref24_Deadline.f k t417 t418 t419).bind fun bt431 => (if bt429.1 = bt431.1 then (customslaw24_ProcedureDeadline.j3 k t418 t419 bt429.1 bt429.2 (bt429.2 != bt431.2)) else (customslaw24_ProcedureDeadline.j3 k t418 t419 bt429.1 bt429.2 true))))))))
set_option maxHeartbeats 8000000 in
set_option maxRecDepth 100000 in
theorem customslaw24_ProcedureDeadline.calls (k : Nat) (a0 : Int) (a1 : Int) (A2 : Option Addr) (c2 : Nat) (l2 : List Int) (a3 : Bool) (r : Bool) (w : World) (hr2 : Kd.C (Kd.int .i64) w A2 l2.length l2) (hc2 : l2.length ≤ c2) (hG_lengths : GL_lengths w) (hG_transitions : GL_transitions w) (h : customslaw24_ProcedureDeadline.f k a0 a1 l2 a3 = some r) :
  Calls Tryd.prog 8 #[.int .i64 a0, .int .i64 a1, .slice A2 l2.length c2, .bool a3] w fun e w' => e = .returned (.bool r) ∧ Below w.heap.size w w' := by
 have HR2 := Aside0.mk hr2
 have HC2 := Aside0.mk hc2
 clear hr2 hc2
 have HG_lengths := Aside0.mk hG_lengths
 clear hG_lengths
 have HG_transitions := Aside0.mk hG_transitions
 clear hG_transitions
 have HB := Aside0.mk (Below.refl w.heap.size w)
 have H : (if (l2.length : Int) > 200 then (if 200 ≤ (l2.length : Int) then (if a3 = true then ((procedure_Deadline.f k a0 a1 (l2.take 200)).bind fun bt403 => ((customsref24_Deadline.f k a0 a1 (l2.take 200)).bind fun bt405 => (if bt403.1 = bt405.1 then (customslaw24_ProcedureDeadline.j0 k a1 (l2.take 200) bt403.1 bt403.2 (bt403.2 != bt405.2)) else (customslaw24_ProcedureDeadline.j0 k a1 (l2.take 200) bt403.1 bt403.2 true)))) else ((customsmade_Within.f a0 14).bind fun t398 => ((customsmade_Day.f a1).bind fun t399 => ((customsmade_Holidays.f k (l2.take 200)).bind fun t400 => ((procedure_Deadline.f k t398 t399 t400).bind fun bt410 => ((customsref24_Deadline.f k t398 t399 t400).bind fun bt412 => (if bt410.1 = bt412.1 then (customslaw24_ProcedureDeadline.j1 k t399 t400 bt410.1 bt410.2 (bt410.2 != bt412.2)) else (customslaw24_ProcedureDeadline.j1 k t399 t400 bt410.1 bt410.2 true)))))))) else (none)) else (if a3 = true then ((procedure_Deadline.f k a0 a1 l2).bind fun bt422 => ((customsref24_Deadline.f k a0 a1 l2).bind fun bt424 => (if bt422.1 = bt424.1 then (customslaw24_ProcedureDeadline.j2 k a1 l2 bt422.1 bt422.2 (bt422.2 != bt424.2)) else (customslaw24_ProcedureDeadline.j2 k a1 l2 bt422.1 bt422.2 true)))) else ((customsmade_Within.f a0 14).bind fun t417 => ((customsmade_Day.f a1).bind fun t418 => ((customsmade_Holidays.f k l2).bind fun t419 => ((procedure_Deadline.f k t417 t418 t419).bind fun bt429 => ((customsref24_Deadline.f k t417 t418 t419).bind fun bt431 => (if bt429.1 = bt431.1 then (customslaw24_ProcedureDeadline.j3 k t418 t419 bt429.1 bt429.2 (bt429.2 != bt431.2)) else (customslaw24_ProcedureDeadline.j3 k t418 t419 bt429.1 bt429.2 true))))))))) = some r := h
 clear h
 by_cases c5 : (l2.length : Int) > 200
 ·
  rw [if_pos c5] at H
  have c5b0 : decide (200 < (l2.length : Int)) = true := decide_eq_true c5
  have c5b1 : decide (200 < l2.length) = true := decide_eq_true (by omega)
  clear c5
  by_cases c6 : 200 ≤ (l2.length : Int)
  ·
   rw [if_pos c6] at H
   have c6b0 := eq_true c6
   have c6b1 : decide (200 ≤ (l2.length : Int)) = true := decide_eq_true c6
   clear c6
   by_cases c7 : a3 = true
   ·
    subst c7
    have H1 : ((procedure_Deadline.f k a0 a1 (l2.take 200)).bind fun bt403 => ((customsref24_Deadline.f k a0 a1 (l2.take 200)).bind fun bt405 => (if bt403.1 = bt405.1 then (customslaw24_ProcedureDeadline.j0 k a1 (l2.take 200) bt403.1 bt403.2 (bt403.2 != bt405.2)) else (customslaw24_ProcedureDeadline.j0 k a1 (l2.take 200) bt403.1 bt403.2 true)))) = some r := by rw [if_pos rfl] at H; exact H
    clear H
    have H := H1
    clear H1
    replace H := Option.bind_eq_some_iff.mp H
    obtain ⟨⟨t403, t404⟩, A80, H⟩ := H
    replace H : ((customsref24_Deadline.f k a0 a1 (l2.take 200)).bind fun bt405 => (if t403 = bt405.1 then (customslaw24_ProcedureDeadline.j0 k a1 (l2.take 200) t403 t404 (t404 != bt405.2)) else (customslaw24_ProcedureDeadline.j0 k a1 (l2.take 200) t403 t404 true))) = some r := H
    have A8 := Aside0.mk A80
    clear A80
    replace H := Option.bind_eq_some_iff.mp H
    obtain ⟨⟨t405, t406⟩, A90, H⟩ := H
    replace H : (if t403 = t405 then (customslaw24_ProcedureDeadline.j0 k a1 (l2.take 200) t403 t404 (t404 != t406)) else (customslaw24_ProcedureDeadline.j0 k a1 (l2.take 200) t403 t404 true)) = some r := H
    have A9 := Aside0.mk A90
    clear A90
    have HC10 := Aside0.mk H
    clear H
    obtain ⟨i011, hi011, _, hsz11, _⟩ := info_parts info3
    obtain ⟨hcut11, hA11, hC11⟩ := print_take_of (P := Tryd.prog) (Value.int .i64) 0 29 3 .i64 Tryd.underlying29 hi011 hsz11 A2 c2 l2 200 (by omega) (of_decide_eq_true (by first | (with_reducible assumption) | assumption)) HC2.out
    have HR397 := Aside0.mk (Kd.C_of_reads (h1 := fun _ => rfl) (hA11 _ (Kd.reads_of_C HR2.out)))
    have HC397 := Aside0.mk hC11
    clear hA11 hC11 hi011 hsz11
    go_enter Tryd.func8, Tryd.ntmps8
    go_upto_region 7 with (first | ((with_reducible refine gate_callee (f := 22) rfl ?_); refine goesL_ (some 30) rfl rfl Tryd.func22 (by kernel_rfl) rfl #[.int .i64 a0, .int .i64 a1, .slice A2 (l2.take 200).length c2] rfl (by (try simp only [List.map_toArray, List.map_cons, List.map_nil]); first | done | (rw [show (l2.take 200).length = 200 from (by rw [List.length_take]; have h_ : (200 : Int) ≤ (l2.length : Int) := of_decide_eq_true (by first | (with_reducible assumption) | assumption); omega)] <;> rfl) | rfl | (simp only [List.length_drop, List.length_take]; rfl)) ?_; (with_reducible refine (procedure_Deadline.calls k a0 a1 _ _ (l2.take 200) t403 t404 _ ?side1 ?side2 ?side3 A8.out).mono ?_); (case side1 => repeat (first | exact HR397.out | (with_reducible refine Kd.C_alloc ?_ _) | (with_reducible refine Kd.C_drewN ?_ _) | (with_reducible refine Kd.C_drew ?_))); (case side2 => exact HC397.out); (case side3 => exact GL_lengths.of_below (by repeat (first | (with_reducible first | exact HB.out | apply below_alloc | apply pw_below_drewN | apply below_drew1) | exact HB.out)) HG_lengths.out); rintro e w12 ⟨rfl, hb⟩; refine ⟨_, rfl, ?_⟩; have n0_ := Aside0.mk (below_step (by repeat (first | (with_reducible first | exact HB.out | apply below_alloc | apply pw_below_drewN | apply below_drew1) | exact HB.out)) hb); clear HB; have HB := n0_; clear n0_; (try clear hb); (try clear hb2); (try clear hk); (try clear hi)) | ((with_reducible refine gate_callee (f := 23) rfl ?_); refine goesL_ (some 37) rfl rfl Tryd.func23 (by kernel_rfl) rfl #[.int .i64 a0, .int .i64 a1, .slice A2 (l2.take 200).length c2] rfl (by (try simp only [List.map_toArray, List.map_cons, List.map_nil]); first | done | (rw [show (l2.take 200).length = 200 from (by rw [List.length_take]; have h_ : (200 : Int) ≤ (l2.length : Int) := of_decide_eq_true (by first | (with_reducible assumption) | assumption); omega)] <;> rfl) | rfl | (simp only [List.length_drop, List.length_take]; rfl)) ?_; (with_reducible refine (customsref24_Deadline.calls k a0 a1 _ _ (l2.take 200) t405 t406 _ ?side1 ?side2 A9.out).mono ?_); (case side1 => repeat (first | exact (Kd.C_below HR397.out HB.out) | (with_reducible refine Kd.C_alloc ?_ _) | (with_reducible refine Kd.C_drewN ?_ _) | (with_reducible refine Kd.C_drew ?_))); (case side2 => exact HC397.out); rintro e w13 ⟨rfl, hb⟩; refine ⟨_, rfl, ?_⟩; have n0_ := Aside0.mk (below_step (by repeat (first | (with_reducible first | exact HB.out | apply below_alloc | apply pw_below_drewN | apply below_drew1) | exact HB.out)) hb); clear HB; have HB := n0_; clear n0_; (try clear hb); (try clear hb2); (try clear hk); (try clear hi)))
    (try simp only [Act.put, List.setIfInBounds_toArray, List.set_cons_zero, List.set_cons_succ])
    go_cut [47] (fun v47 wc => ∃ (kq : Nat) (x47_9 : Bool), v47 = .bool x47_9 ∧ Aside0 (customslaw24_ProcedureDeadline.j0 kq a1 (l2.take 200) t403 t404 x47_9 = some r) ∧ Aside0 (kq ≤ k) ∧ Aside0 (Below w.heap.size w wc))
    case first =>
     have H := HC10.out
     clear HC10
     by_cases c14 : t403 = t405
     ·
      rw [if_pos c14] at H
      have c14b0 : (t403 == t405) = true := beq_iff_eq.mpr c14
      have c14b1 : (t403 != t405) = false := bne_eq_false_iff_eq.mpr c14
      clear c14
      (first | rw [c14b0] | (simp only [i64_w, i32_w]; rw [c14b0]) | skip)
      have H' := Aside0.mk H
      clear H
      go_wp2
      go_meet
      case rel => exact ⟨_, ((t404 != t406)), (by first | rfl | (simp; done) | (simp [*]; done)), H', ⟨by first | omega | exact Nat.le_refl _⟩, ⟨by repeat (first | (with_reducible first | exact HB.out | apply below_alloc | apply pw_below_drewN | apply below_drew1) | exact HB.out)⟩⟩
     ·
      rw [if_neg c14] at H
      have c14b0 : (t403 == t405) = false := beq_eq_false_iff_ne.mpr c14
      have c14b1 : (t403 != t405) = true := bne_iff_ne.mpr c14
      (first | rw [c14b0] | (simp only [i64_w, i32_w]; rw [c14b0]) | skip)
      have H' := Aside0.mk H
      clear H
      go_wp2
      go_meet
      case rel => exact ⟨_, (true), (by first | rfl | (simp; done) | (simp [*]; done)), H', ⟨by first | omega | exact Nat.le_refl _⟩, ⟨by repeat (first | (with_reducible first | exact HB.out | apply below_alloc | apply pw_below_drewN | apply below_drew1) | exact HB.out)⟩⟩
    case rest =>
     clear HC10
     try clear c1
     try clear c2
     try clear p2
     try clear c5
     try clear c5b0
     try clear c5b1
     try clear c6
     try clear c6b0
     try clear c6b1
     try clear c7
     try clear c8
     try clear c14
     try clear c14b0
     try clear c14b1
     obtain ⟨kq, x47_9, rfl, HA, HJ9, HB⟩ := hcut
     cases kq with
     | zero => exact absurd HA.out (by simp [customslaw24_ProcedureDeadline.j0])
     | succ kj9 =>
      have H := HA.out
      clear HA
      simp only [customslaw24_ProcedureDeadline.j0] at H
      by_cases c15 : x47_9 = true
      ·
       subst c15
       have H1 : (some false) = some r := by rw [if_pos rfl] at H; exact H
       clear H
       have H := H1
       clear H1
       obtain rfl := Option.some.inj H
       go_wp2
       go_ret
       exact ⟨by first | rfl | (simp [errW_none, errW_some] <;> rfl) | (simp [*, errW_none, errW_some] <;> rfl), by repeat (first | (with_reducible first | exact HB.out | apply below_alloc | apply pw_below_drewN | apply below_drew1) | exact HB.out)⟩
      ·
       replace c15 := Bool.eq_false_iff.mpr c15
       subst c15
       have H1 : (if t404 = true then (if t403 ≥ a1 then ((calendar_Working.f kj9 (l2.take 200) t403).bind fun t407 => (if t407 = true then ((customslaw24_awake.f kj9).bind fun t408 => (some t408)) else (some false))) else (some false)) else ((customslaw24_awake.f kj9).bind fun t409 => (some t409))) = some r := by rw [if_neg (show ¬ (false = true) by decide)] at H; exact H
       clear H
       have H := H1
       clear H1
       by_cases c16 : t404 = true
       ·
        subst c16
        have H1 : (if t403 ≥ a1 then ((calendar_Working.f kj9 (l2.take 200) t403).bind fun t407 => (if t407 = true then ((customslaw24_awake.f kj9).bind fun t408 => (some t408)) else (some false))) else (some false)) = some r := by rw [if_pos rfl] at H; exact H
        clear H
        have H := H1
        clear H1
        by_cases c17 : t403 ≥ a1
        ·
         rw [if_pos c17] at H
         have c17b0 : decide (a1 ≤ t403) = true := decide_eq_true c17
         clear c17
         replace H := Option.bind_eq_some_iff.mp H
         obtain ⟨t407, A180, H⟩ := H
         replace H : (if t407 = true then ((customslaw24_awake.f kj9).bind fun t408 => (some t408)) else (some false)) = some r := H
         have A18 := Aside0.mk A180
         clear A180
         by_cases c19 : t407 = true
         ·
          subst c19
          have H1 : ((customslaw24_awake.f kj9).bind fun t408 => (some t408)) = some r := by rw [if_pos rfl] at H; exact H
          clear H
          have H := H1
          clear H1
          replace H := Option.bind_eq_some_iff.mp H
          obtain ⟨t408, A200, H⟩ := H
          replace H : (some t408) = some r := H
          have A20 := Aside0.mk A200
          clear A200
          obtain rfl := Option.some.inj H
          go_wp2_with (first | (go_at_call 24; refine calls_of_args (args' := #[.slice A2 (l2.take 200).length c2, .int .i64 t403]) (by first | rfl | (simp only [List.length_take, List.length_drop]; done) | (simp only [List.length_take, List.length_drop]; rfl) | (simp; done)) ?_; (with_reducible refine (calendar_Working.calls kj9 _ _ (l2.take 200) t403 true _ ?side1 ?side2 A18.out).mono ?_); (case side1 => repeat (first | exact (Kd.C_below HR397.out HB.out) | (with_reducible refine Kd.C_alloc ?_ _) | (with_reducible refine Kd.C_drewN ?_ _) | (with_reducible refine Kd.C_drew ?_))); (case side2 => exact HC397.out); rintro e w' ⟨rfl, ⟨nd, rfl⟩⟩) | (go_at_call 14; (with_reducible refine (customslaw24_awake.calls kj9  t408 _ ?side1 A20.out).mono ?_); (case side1 => exact GL_transitions.of_below (by repeat (first | (with_reducible first | exact HB.out | apply below_alloc | apply pw_below_drewN | apply below_drew1) | exact HB.out)) HG_transitions.out); rintro e w21 ⟨rfl, hb⟩; have n0_ := Aside0.mk (below_step (by repeat (first | (with_reducible first | exact HB.out | apply below_alloc | apply pw_below_drewN | apply below_drew1) | exact HB.out)) hb); clear HB; have HB := n0_; clear n0_; (try clear hb); (try clear hb2); (try clear hk); (try clear hi)))
          go_ret
          exact ⟨by first | rfl | (simp [errW_none, errW_some] <;> rfl) | (simp [*, errW_none, errW_some] <;> rfl), by repeat (first | (with_reducible first | exact HB.out | apply below_alloc | apply pw_below_drewN | apply below_drew1) | exact HB.out)⟩
         ·
          replace c19 := Bool.eq_false_iff.mpr c19
          subst c19
          have H1 : (some false) = some r := by rw [if_neg (show ¬ (false = true) by decide)] at H; exact H
          clear H
          have H := H1
          clear H1
          obtain rfl := Option.some.inj H
          go_wp2_with (first | (go_at_call 24; refine calls_of_args (args' := #[.slice A2 (l2.take 200).length c2, .int .i64 t403]) (by first | rfl | (simp only [List.length_take, List.length_drop]; done) | (simp only [List.length_take, List.length_drop]; rfl) | (simp; done)) ?_; (with_reducible refine (calendar_Working.calls kj9 _ _ (l2.take 200) t403 false _ ?side1 ?side2 A18.out).mono ?_); (case side1 => repeat (first | exact (Kd.C_below HR397.out HB.out) | (with_reducible refine Kd.C_alloc ?_ _) | (with_reducible refine Kd.C_drewN ?_ _) | (with_reducible refine Kd.C_drew ?_))); (case side2 => exact HC397.out); rintro e w' ⟨rfl, ⟨nd, rfl⟩⟩))
          go_ret
          exact ⟨by first | rfl | (simp [errW_none, errW_some] <;> rfl) | (simp [*, errW_none, errW_some] <;> rfl), by repeat (first | (with_reducible first | exact HB.out | apply below_alloc | apply pw_below_drewN | apply below_drew1) | exact HB.out)⟩
        ·
         rw [if_neg c17] at H
         have c17b0 : decide (a1 ≤ t403) = false := decide_eq_false c17
         clear c17
         obtain rfl := Option.some.inj H
         go_wp2
         go_ret
         exact ⟨by first | rfl | (simp [errW_none, errW_some] <;> rfl) | (simp [*, errW_none, errW_some] <;> rfl), by repeat (first | (with_reducible first | exact HB.out | apply below_alloc | apply pw_below_drewN | apply below_drew1) | exact HB.out)⟩
       ·
        replace c16 := Bool.eq_false_iff.mpr c16
        subst c16
        have H1 : ((customslaw24_awake.f kj9).bind fun t409 => (some t409)) = some r := by rw [if_neg (show ¬ (false = true) by decide)] at H; exact H
        clear H
        have H := H1
        clear H1
        replace H := Option.bind_eq_some_iff.mp H
        obtain ⟨t409, A220, H⟩ := H
        replace H : (some t409) = some r := H
        have A22 := Aside0.mk A220
        clear A220
        obtain rfl := Option.some.inj H
        go_wp2_with (first | (go_at_call 14; (with_reducible refine (customslaw24_awake.calls kj9  t409 _ ?side1 A22.out).mono ?_); (case side1 => exact GL_transitions.of_below (by repeat (first | (with_reducible first | exact HB.out | apply below_alloc | apply pw_below_drewN | apply below_drew1) | exact HB.out)) HG_transitions.out); rintro e w23 ⟨rfl, hb⟩; have n0_ := Aside0.mk (below_step (by repeat (first | (with_reducible first | exact HB.out | apply below_alloc | apply pw_below_drewN | apply below_drew1) | exact HB.out)) hb); clear HB; have HB := n0_; clear n0_; (try clear hb); (try clear hb2); (try clear hk); (try clear hi)))
        go_ret
        exact ⟨by first | rfl | (simp [errW_none, errW_some] <;> rfl) | (simp [*, errW_none, errW_some] <;> rfl), by repeat (first | (with_reducible first | exact HB.out | apply below_alloc | apply pw_below_drewN | apply below_drew1) | exact HB.out)⟩
   ·
    replace c7 := Bool.eq_false_iff.mpr c7
    subst c7
    have H1 : ((customsmade_Within.f a0 14).bind fun t398 => ((customsmade_Day.f a1).bind fun t399 => ((customsmade_Holidays.f k (l2.take 200)).bind fun t400 => ((procedure_Deadline.f k t398 t399 t400).bind fun bt410 => ((customsref24_Deadline.f k t398 t399 t400).bind fun bt412 => (if bt410.1 = bt412.1 then (customslaw24_ProcedureDeadline.j1 k t399 t400 bt410.1 bt410.2 (bt410.2 != bt412.2)) else (customslaw24_ProcedureDeadline.j1 k t399 t400 bt410.1 bt410.2 true))))))) = some r := by rw [if_neg (show ¬ (false = true) by decide)] at H; exact H
    clear H
    have H := H1
    clear H1
    replace H := Option.bind_eq_some_iff.mp H
    obtain ⟨t398, A240, H⟩ := H
    replace H : ((customsmade_Day.f a1).bind fun t399 => ((customsmade_Holidays.f k (l2.take 200)).bind fun t400 => ((procedure_Deadline.f k t398 t399 t400).bind fun bt410 => ((customsref24_Deadline.f k t398 t399 t400).bind fun bt412 => (if bt410.1 = bt412.1 then (customslaw24_ProcedureDeadline.j1 k t399 t400 bt410.1 bt410.2 (bt410.2 != bt412.2)) else (customslaw24_ProcedureDeadline.j1 k t399 t400 bt410.1 bt410.2 true)))))) = some r := H
    have A24 := Aside0.mk A240
    clear A240
    replace H := Option.bind_eq_some_iff.mp H
    obtain ⟨t399, A250, H⟩ := H
    replace H : ((customsmade_Holidays.f k (l2.take 200)).bind fun t400 => ((procedure_Deadline.f k t398 t399 t400).bind fun bt410 => ((customsref24_Deadline.f k t398 t399 t400).bind fun bt412 => (if bt410.1 = bt412.1 then (customslaw24_ProcedureDeadline.j1 k t399 t400 bt410.1 bt410.2 (bt410.2 != bt412.2)) else (customslaw24_ProcedureDeadline.j1 k t399 t400 bt410.1 bt410.2 true))))) = some r := H
    have A25 := Aside0.mk A250
    clear A250
    replace H := Option.bind_eq_some_iff.mp H
    obtain ⟨t400, A260, H⟩ := H
    replace H : ((procedure_Deadline.f k t398 t399 t400).bind fun bt410 => ((customsref24_Deadline.f k t398 t399 t400).bind fun bt412 => (if bt410.1 = bt412.1 then (customslaw24_ProcedureDeadline.j1 k t399 t400 bt410.1 bt410.2 (bt410.2 != bt412.2)) else (customslaw24_ProcedureDeadline.j1 k t399 t400 bt410.1 bt410.2 true)))) = some r := H
    have A26 := Aside0.mk A260
    clear A260
    replace H := Option.bind_eq_some_iff.mp H
    obtain ⟨⟨t410, t411⟩, A270, H⟩ := H
    replace H : ((customsref24_Deadline.f k t398 t399 t400).bind fun bt412 => (if t410 = bt412.1 then (customslaw24_ProcedureDeadline.j1 k t399 t400 t410 t411 (t411 != bt412.2)) else (customslaw24_ProcedureDeadline.j1 k t399 t400 t410 t411 true))) = some r := H
    have A27 := Aside0.mk A270
    clear A270
    replace H := Option.bind_eq_some_iff.mp H
    obtain ⟨⟨t412, t413⟩, A280, H⟩ := H
    replace H : (if t410 = t412 then (customslaw24_ProcedureDeadline.j1 k t399 t400 t410 t411 (t411 != t413)) else (customslaw24_ProcedureDeadline.j1 k t399 t400 t410 t411 true)) = some r := H
    have A28 := Aside0.mk A280
    clear A280
    have HC29 := Aside0.mk H
    clear H
    obtain ⟨i030, hi030, _, hsz30, _⟩ := info_parts info3
    obtain ⟨hcut30, hA30, hC30⟩ := print_take_of (P := Tryd.prog) (Value.int .i64) 0 29 3 .i64 Tryd.underlying29 hi030 hsz30 A2 c2 l2 200 (by omega) (of_decide_eq_true (by first | (with_reducible assumption) | assumption)) HC2.out
    have HR397 := Aside0.mk (Kd.C_of_reads (h1 := fun _ => rfl) (hA30 _ (Kd.reads_of_C HR2.out)))
    have HC397 := Aside0.mk hC30
    clear hA30 hC30 hi030 hsz30
    go_enter Tryd.func8, Tryd.ntmps8
    go_upto_region 7 with (first | ((with_reducible refine gate_callee (f := 9) rfl ?_); refine goesL_ (some 21) rfl rfl Tryd.func9 (by kernel_rfl) rfl #[.int .i64 a0, .int .i64 14] rfl (by (try simp only [List.map_toArray, List.map_cons, List.map_nil]); first | done | rfl | (simp only [List.length_drop, List.length_take]; rfl)) ?_; (with_reducible refine (customsmade_Within.calls a0 14 t398 _ A24.out).mono ?_); rintro e w' ⟨rfl, ⟨nd, rfl⟩⟩; refine ⟨_, rfl, ?_⟩) | ((with_reducible refine gate_callee (f := 20) rfl ?_); refine goesL_ (some 23) rfl rfl Tryd.func20 (by kernel_rfl) rfl #[.int .i64 a1] rfl (by (try simp only [List.map_toArray, List.map_cons, List.map_nil]); first | done | rfl | (simp only [List.length_drop, List.length_take]; rfl)) ?_; (with_reducible refine (customsmade_Day.calls a1 t399 _ A25.out).mono ?_); rintro e w' ⟨rfl, ⟨nd, rfl⟩⟩; refine ⟨_, rfl, ?_⟩) | ((with_reducible refine gate_callee (f := 21) rfl ?_); refine goesL_ (some 25) rfl rfl Tryd.func21 (by kernel_rfl) rfl #[.slice A2 (l2.take 200).length c2] rfl (by (try simp only [List.map_toArray, List.map_cons, List.map_nil]); first | done | (rw [show (l2.take 200).length = 200 from (by rw [List.length_take]; have h_ : (200 : Int) ≤ (l2.length : Int) := of_decide_eq_true (by first | (with_reducible assumption) | assumption); omega)] <;> rfl) | rfl | (simp only [List.length_drop, List.length_take]; rfl)) ?_; (with_reducible refine (customsmade_Holidays.calls k _ _ (l2.take 200) t400 _ ?side1 ?side2 A26.out).mono ?_); (case side1 => repeat (first | exact HR397.out | (with_reducible refine Kd.C_alloc ?_ _) | (with_reducible refine Kd.C_drewN ?_ _) | (with_reducible refine Kd.C_drew ?_))); (case side2 => exact HC397.out); rintro e w31 ⟨v401, rfl, ho0, hb⟩; refine ⟨_, rfl, ?_⟩; have n0_ := Aside0.mk (Kd.R_lower ho0 (below_size (by repeat (first | (with_reducible first | exact HB.out | apply below_alloc | apply pw_below_drewN | apply below_drew1) | exact HB.out)))); have n1_ := Aside0.mk (below_step (by repeat (first | (with_reducible first | exact HB.out | apply below_alloc | apply pw_below_drewN | apply below_drew1) | exact HB.out)) hb); clear HB; have HO402 := n0_; have HB := n1_; clear n0_ n1_; (try clear hb); (try clear hb2); (try clear hk); (try clear hi); (try clear ho0); obtain ⟨Ao32, co32, eo32⟩ := Kd.R_slice HO402.out; subst eo32) | ((with_reducible refine gate_callee (f := 22) rfl ?_); refine goesL_ (some 30) rfl rfl Tryd.func22 (by kernel_rfl) rfl #[.int .i64 t398, .int .i64 t399, .slice Ao32 t400.length co32] rfl (by (try simp only [List.map_toArray, List.map_cons, List.map_nil]); first | done | rfl | (simp only [List.length_drop, List.length_take]; rfl)) ?_; (with_reducible refine (procedure_Deadline.calls k t398 t399 _ _ t400 t410 t411 _ ?side1 ?side2 ?side3 A27.out).mono ?_); (case side1 => repeat (first | exact (Kd.R_reads' HO402.out).2.2 | (with_reducible refine Kd.C_alloc ?_ _) | (with_reducible refine Kd.C_drewN ?_ _) | (with_reducible refine Kd.C_drew ?_))); (case side2 => exact (Kd.R_reads' HO402.out).2.1); (case side3 => exact GL_lengths.of_below (by repeat (first | (with_reducible first | exact HB.out | apply below_alloc | apply pw_below_drewN | apply below_drew1) | exact HB.out)) HG_lengths.out); rintro e w33 ⟨rfl, hb⟩; refine ⟨_, rfl, ?_⟩; have n0_ := Aside0.mk (Kd.R_below (by (with_reducible repeat (first | apply Kd.R_alloc | apply Kd.R_drewN | apply Kd.R_drew)); exact HO402.out) hb); have n1_ := Aside0.mk (below_step (by repeat (first | (with_reducible first | exact HB.out | apply below_alloc | apply pw_below_drewN | apply below_drew1) | exact HB.out)) hb); clear HO402; clear HB; have HO402 := n0_; have HB := n1_; clear n0_ n1_; (try clear hb); (try clear hb2); (try clear hk); (try clear hi)) | ((with_reducible refine gate_callee (f := 23) rfl ?_); refine goesL_ (some 37) rfl rfl Tryd.func23 (by kernel_rfl) rfl #[.int .i64 t398, .int .i64 t399, .slice Ao32 t400.length co32] rfl (by (try simp only [List.map_toArray, List.map_cons, List.map_nil]); first | done | rfl | (simp only [List.length_drop, List.length_take]; rfl)) ?_; (with_reducible refine (customsref24_Deadline.calls k t398 t399 _ _ t400 t412 t413 _ ?side1 ?side2 A28.out).mono ?_); (case side1 => repeat (first | exact (Kd.R_reads' HO402.out).2.2 | (with_reducible refine Kd.C_alloc ?_ _) | (with_reducible refine Kd.C_drewN ?_ _) | (with_reducible refine Kd.C_drew ?_))); (case side2 => exact (Kd.R_reads' HO402.out).2.1); rintro e w34 ⟨rfl, hb⟩; refine ⟨_, rfl, ?_⟩; have n0_ := Aside0.mk (Kd.R_below (by (with_reducible repeat (first | apply Kd.R_alloc | apply Kd.R_drewN | apply Kd.R_drew)); exact HO402.out) hb); have n1_ := Aside0.mk (below_step (by repeat (first | (with_reducible first | exact HB.out | apply below_alloc | apply pw_below_drewN | apply below_drew1) | exact HB.out)) hb); clear HO402; clear HB; have HO402 := n0_; have HB := n1_; clear n0_ n1_; (try clear hb); (try clear hb2); (try clear hk); (try clear hi)))
    (try simp only [Act.put, List.setIfInBounds_toArray, List.set_cons_zero, List.set_cons_succ])
    go_cut [47] (fun v47 wc => ∃ (kq : Nat) (x47_28 : Bool), v47 = .bool x47_28 ∧ Aside0 (customslaw24_ProcedureDeadline.j1 kq t399 t400 t410 t411 x47_28 = some r) ∧ Aside0 (kq ≤ k) ∧ Aside0 (Kd.R (Kd.int .i64) 3 wc w.heap.size (fun _ => True) (.slice Ao32 t400.length co32) t400) ∧ Aside0 (Below w.heap.size w wc))
    case first =>
     have H := HC29.out
     clear HC29
     by_cases c35 : t410 = t412
     ·
      rw [if_pos c35] at H
      have c35b0 : (t410 == t412) = true := beq_iff_eq.mpr c35
      have c35b1 : (t410 != t412) = false := bne_eq_false_iff_eq.mpr c35
      clear c35
      (first | rw [c35b0] | (simp only [i64_w, i32_w]; rw [c35b0]) | skip)
      have H' := Aside0.mk H
      clear H
      go_wp2
      go_meet
      case rel => exact ⟨_, ((t411 != t413)), (by first | rfl | (simp; done) | (simp [*]; done)), H', ⟨by first | omega | exact Nat.le_refl _⟩, ⟨by (with_reducible repeat (first | apply Kd.R_alloc | apply Kd.R_drewN | apply Kd.R_drew)); exact HO402.out⟩, ⟨by repeat (first | (with_reducible first | exact HB.out | apply below_alloc | apply pw_below_drewN | apply below_drew1) | exact HB.out)⟩⟩
     ·
      rw [if_neg c35] at H
      have c35b0 : (t410 == t412) = false := beq_eq_false_iff_ne.mpr c35
      have c35b1 : (t410 != t412) = true := bne_iff_ne.mpr c35
      (first | rw [c35b0] | (simp only [i64_w, i32_w]; rw [c35b0]) | skip)
      have H' := Aside0.mk H
      clear H
      go_wp2
      go_meet
      case rel => exact ⟨_, (true), (by first | rfl | (simp; done) | (simp [*]; done)), H', ⟨by first | omega | exact Nat.le_refl _⟩, ⟨by (with_reducible repeat (first | apply Kd.R_alloc | apply Kd.R_drewN | apply Kd.R_drew)); exact HO402.out⟩, ⟨by repeat (first | (with_reducible first | exact HB.out | apply below_alloc | apply pw_below_drewN | apply below_drew1) | exact HB.out)⟩⟩
    case rest =>
     clear HC29
     try clear c1
     try clear c2
     try clear p2
     try clear c3
     try clear c5
     try clear c5b0
     try clear c5b1
     try clear c6
     try clear c6b0
     try clear c6b1
     try clear c7
     try clear c8
     try clear c9
     try clear c14
     try clear c14b0
     try clear c14b1
     try clear c15
     try clear c16
     try clear c17
     try clear c17b0
     try clear c19
     try clear c20
     try clear c21
     try clear c22
     try clear c23
     try clear c35
     try clear c35b0
     try clear c35b1
     try clear p2
     obtain ⟨kq, x47_28, rfl, HA, HJ28, HO_2, HB⟩ := hcut
     cases kq with
     | zero => exact absurd HA.out (by simp [customslaw24_ProcedureDeadline.j1])
     | succ kj28 =>
      have H := HA.out
      clear HA
      simp only [customslaw24_ProcedureDeadline.j1] at H
      by_cases c36 : x47_28 = true
      ·
       subst c36
       have H1 : (some false) = some r := by rw [if_pos rfl] at H; exact H
       clear H
       have H := H1
       clear H1
       obtain rfl := Option.some.inj H
       go_wp2
       go_ret
       exact ⟨by first | rfl | (simp [errW_none, errW_some] <;> rfl) | (simp [*, errW_none, errW_some] <;> rfl), by repeat (first | (with_reducible first | exact HB.out | apply below_alloc | apply pw_below_drewN | apply below_drew1) | exact HB.out)⟩
      ·
       replace c36 := Bool.eq_false_iff.mpr c36
       subst c36
       have H1 : (if t411 = true then (if t410 ≥ t399 then ((calendar_Working.f kj28 t400 t410).bind fun t414 => (if t414 = true then ((customslaw24_awake.f kj28).bind fun t415 => (some t415)) else (some false))) else (some false)) else ((customslaw24_awake.f kj28).bind fun t416 => (some t416))) = some r := by rw [if_neg (show ¬ (false = true) by decide)] at H; exact H
       clear H
       have H := H1
       clear H1
       by_cases c37 : t411 = true
       ·
        subst c37
        have H1 : (if t410 ≥ t399 then ((calendar_Working.f kj28 t400 t410).bind fun t414 => (if t414 = true then ((customslaw24_awake.f kj28).bind fun t415 => (some t415)) else (some false))) else (some false)) = some r := by rw [if_pos rfl] at H; exact H
        clear H
        have H := H1
        clear H1
        by_cases c38 : t410 ≥ t399
        ·
         rw [if_pos c38] at H
         have c38b0 : decide (t399 ≤ t410) = true := decide_eq_true c38
         clear c38
         replace H := Option.bind_eq_some_iff.mp H
         obtain ⟨t414, A390, H⟩ := H
         replace H : (if t414 = true then ((customslaw24_awake.f kj28).bind fun t415 => (some t415)) else (some false)) = some r := H
         have A39 := Aside0.mk A390
         clear A390
         by_cases c40 : t414 = true
         ·
          subst c40
          have H1 : ((customslaw24_awake.f kj28).bind fun t415 => (some t415)) = some r := by rw [if_pos rfl] at H; exact H
          clear H
          have H := H1
          clear H1
          replace H := Option.bind_eq_some_iff.mp H
          obtain ⟨t415, A410, H⟩ := H
          replace H : (some t415) = some r := H
          have A41 := Aside0.mk A410
          clear A410
          obtain rfl := Option.some.inj H
          go_wp2_with (first | (go_at_call 24; (with_reducible refine (calendar_Working.calls kj28 _ _ t400 t410 true _ ?side1 ?side2 A39.out).mono ?_); (case side1 => repeat (first | exact (Kd.R_reads' HO_2.out).2.2 | (with_reducible refine Kd.C_alloc ?_ _) | (with_reducible refine Kd.C_drewN ?_ _) | (with_reducible refine Kd.C_drew ?_))); (case side2 => exact (Kd.R_reads' HO_2.out).2.1); rintro e w' ⟨rfl, ⟨nd, rfl⟩⟩) | (go_at_call 14; (with_reducible refine (customslaw24_awake.calls kj28  t415 _ ?side1 A41.out).mono ?_); (case side1 => exact GL_transitions.of_below (by repeat (first | (with_reducible first | exact HB.out | apply below_alloc | apply pw_below_drewN | apply below_drew1) | exact HB.out)) HG_transitions.out); rintro e w42 ⟨rfl, hb⟩; have n0_ := Aside0.mk (Kd.R_below (by (with_reducible repeat (first | apply Kd.R_alloc | apply Kd.R_drewN | apply Kd.R_drew)); exact HO_2.out) hb); have n1_ := Aside0.mk (below_step (by repeat (first | (with_reducible first | exact HB.out | apply below_alloc | apply pw_below_drewN | apply below_drew1) | exact HB.out)) hb); clear HO_2; clear HB; have HO_2 := n0_; have HB := n1_; clear n0_ n1_; (try clear hb); (try clear hb2); (try clear hk); (try clear hi)))
          go_ret
          exact ⟨by first | rfl | (simp [errW_none, errW_some] <;> rfl) | (simp [*, errW_none, errW_some] <;> rfl), by repeat (first | (with_reducible first | exact HB.out | apply below_alloc | apply pw_below_drewN | apply below_drew1) | exact HB.out)⟩
         ·
          replace c40 := Bool.eq_false_iff.mpr c40
          subst c40
          have H1 : (some false) = some r := by rw [if_neg (show ¬ (false = true) by decide)] at H; exact H
          clear H
          have H := H1
          clear H1
          obtain rfl := Option.some.inj H
          go_wp2_with (first | (go_at_call 24; (with_reducible refine (calendar_Working.calls kj28 _ _ t400 t410 false _ ?side1 ?side2 A39.out).mono ?_); (case side1 => repeat (first | exact (Kd.R_reads' HO_2.out).2.2 | (with_reducible refine Kd.C_alloc ?_ _) | (with_reducible refine Kd.C_drewN ?_ _) | (with_reducible refine Kd.C_drew ?_))); (case side2 => exact (Kd.R_reads' HO_2.out).2.1); rintro e w' ⟨rfl, ⟨nd, rfl⟩⟩))
          go_ret
          exact ⟨by first | rfl | (simp [errW_none, errW_some] <;> rfl) | (simp [*, errW_none, errW_some] <;> rfl), by repeat (first | (with_reducible first | exact HB.out | apply below_alloc | apply pw_below_drewN | apply below_drew1) | exact HB.out)⟩
        ·
         rw [if_neg c38] at H
         have c38b0 : decide (t399 ≤ t410) = false := decide_eq_false c38
         clear c38
         obtain rfl := Option.some.inj H
         go_wp2
         go_ret
         exact ⟨by first | rfl | (simp [errW_none, errW_some] <;> rfl) | (simp [*, errW_none, errW_some] <;> rfl), by repeat (first | (with_reducible first | exact HB.out | apply below_alloc | apply pw_below_drewN | apply below_drew1) | exact HB.out)⟩
       ·
        replace c37 := Bool.eq_false_iff.mpr c37
        subst c37
        have H1 : ((customslaw24_awake.f kj28).bind fun t416 => (some t416)) = some r := by rw [if_neg (show ¬ (false = true) by decide)] at H; exact H
        clear H
        have H := H1
        clear H1
        replace H := Option.bind_eq_some_iff.mp H
        obtain ⟨t416, A430, H⟩ := H
        replace H : (some t416) = some r := H
        have A43 := Aside0.mk A430
        clear A430
        obtain rfl := Option.some.inj H
        go_wp2_with (first | (go_at_call 14; (with_reducible refine (customslaw24_awake.calls kj28  t416 _ ?side1 A43.out).mono ?_); (case side1 => exact GL_transitions.of_below (by repeat (first | (with_reducible first | exact HB.out | apply below_alloc | apply pw_below_drewN | apply below_drew1) | exact HB.out)) HG_transitions.out); rintro e w44 ⟨rfl, hb⟩; have n0_ := Aside0.mk (Kd.R_below (by (with_reducible repeat (first | apply Kd.R_alloc | apply Kd.R_drewN | apply Kd.R_drew)); exact HO_2.out) hb); have n1_ := Aside0.mk (below_step (by repeat (first | (with_reducible first | exact HB.out | apply below_alloc | apply pw_below_drewN | apply below_drew1) | exact HB.out)) hb); clear HO_2; clear HB; have HO_2 := n0_; have HB := n1_; clear n0_ n1_; (try clear hb); (try clear hb2); (try clear hk); (try clear hi)))
        go_ret
        exact ⟨by first | rfl | (simp [errW_none, errW_some] <;> rfl) | (simp [*, errW_none, errW_some] <;> rfl), by repeat (first | (with_reducible first | exact HB.out | apply below_alloc | apply pw_below_drewN | apply below_drew1) | exact HB.out)⟩
  ·
   rw [if_neg c6] at H
   exact absurd H (by simp)
 ·
  rw [if_neg c5] at H
  have c5b0 : decide (200 < (l2.length : Int)) = false := decide_eq_false c5
  have c5b1 : decide (200 < l2.length) = false := decide_eq_false (by omega)
  clear c5
  by_cases c45 : a3 = true
  ·
   subst c45
   have H1 : ((procedure_Deadline.f k a0 a1 l2).bind fun bt422 => ((customsref24_Deadline.f k a0 a1 l2).bind fun bt424 => (if bt422.1 = bt424.1 then (customslaw24_ProcedureDeadline.j2 k a1 l2 bt422.1 bt422.2 (bt422.2 != bt424.2)) else (customslaw24_ProcedureDeadline.j2 k a1 l2 bt422.1 bt422.2 true)))) = some r := by rw [if_pos rfl] at H; exact H
   clear H
   have H := H1
   clear H1
   replace H := Option.bind_eq_some_iff.mp H
   obtain ⟨⟨t422, t423⟩, A460, H⟩ := H
   replace H : ((customsref24_Deadline.f k a0 a1 l2).bind fun bt424 => (if t422 = bt424.1 then (customslaw24_ProcedureDeadline.j2 k a1 l2 t422 t423 (t423 != bt424.2)) else (customslaw24_ProcedureDeadline.j2 k a1 l2 t422 t423 true))) = some r := H
   have A46 := Aside0.mk A460
   clear A460
   replace H := Option.bind_eq_some_iff.mp H
   obtain ⟨⟨t424, t425⟩, A470, H⟩ := H
   replace H : (if t422 = t424 then (customslaw24_ProcedureDeadline.j2 k a1 l2 t422 t423 (t423 != t425)) else (customslaw24_ProcedureDeadline.j2 k a1 l2 t422 t423 true)) = some r := H
   have A47 := Aside0.mk A470
   clear A470
   have HC48 := Aside0.mk H
   clear H
   go_enter Tryd.func8, Tryd.ntmps8
   go_upto_region 7 with (first | ((with_reducible refine gate_callee (f := 22) rfl ?_); refine goesL_ (some 30) rfl rfl Tryd.func22 (by kernel_rfl) rfl #[.int .i64 a0, .int .i64 a1, .slice A2 l2.length c2] rfl (by (try simp only [List.map_toArray, List.map_cons, List.map_nil]); first | done | rfl | (simp only [List.length_drop, List.length_take]; rfl)) ?_; (with_reducible refine (procedure_Deadline.calls k a0 a1 _ _ l2 t422 t423 _ ?side1 ?side2 ?side3 A46.out).mono ?_); (case side1 => repeat (first | exact HR2.out | (with_reducible refine Kd.C_alloc ?_ _) | (with_reducible refine Kd.C_drewN ?_ _) | (with_reducible refine Kd.C_drew ?_))); (case side2 => exact HC2.out); (case side3 => exact GL_lengths.of_below (by repeat (first | (with_reducible first | exact HB.out | apply below_alloc | apply pw_below_drewN | apply below_drew1) | exact HB.out)) HG_lengths.out); rintro e w49 ⟨rfl, hb⟩; refine ⟨_, rfl, ?_⟩; have n0_ := Aside0.mk (below_step (by repeat (first | (with_reducible first | exact HB.out | apply below_alloc | apply pw_below_drewN | apply below_drew1) | exact HB.out)) hb); clear HB; have HB := n0_; clear n0_; (try clear hb); (try clear hb2); (try clear hk); (try clear hi)) | ((with_reducible refine gate_callee (f := 23) rfl ?_); refine goesL_ (some 37) rfl rfl Tryd.func23 (by kernel_rfl) rfl #[.int .i64 a0, .int .i64 a1, .slice A2 l2.length c2] rfl (by (try simp only [List.map_toArray, List.map_cons, List.map_nil]); first | done | rfl | (simp only [List.length_drop, List.length_take]; rfl)) ?_; (with_reducible refine (customsref24_Deadline.calls k a0 a1 _ _ l2 t424 t425 _ ?side1 ?side2 A47.out).mono ?_); (case side1 => repeat (first | exact (Kd.C_below HR2.out HB.out) | (with_reducible refine Kd.C_alloc ?_ _) | (with_reducible refine Kd.C_drewN ?_ _) | (with_reducible refine Kd.C_drew ?_))); (case side2 => exact HC2.out); rintro e w50 ⟨rfl, hb⟩; refine ⟨_, rfl, ?_⟩; have n0_ := Aside0.mk (below_step (by repeat (first | (with_reducible first | exact HB.out | apply below_alloc | apply pw_below_drewN | apply below_drew1) | exact HB.out)) hb); clear HB; have HB := n0_; clear n0_; (try clear hb); (try clear hb2); (try clear hk); (try clear hi)))
   (try simp only [Act.put, List.setIfInBounds_toArray, List.set_cons_zero, List.set_cons_succ])
   go_cut [47] (fun v47 wc => ∃ (kq : Nat) (x47_47 : Bool), v47 = .bool x47_47 ∧ Aside0 (customslaw24_ProcedureDeadline.j2 kq a1 l2 t422 t423 x47_47 = some r) ∧ Aside0 (kq ≤ k) ∧ Aside0 (Below w.heap.size w wc))
   case first =>
    have H := HC48.out
    clear HC48
    by_cases c51 : t422 = t424
    ·
     rw [if_pos c51] at H
     have c51b0 : (t422 == t424) = true := beq_iff_eq.mpr c51
     have c51b1 : (t422 != t424) = false := bne_eq_false_iff_eq.mpr c51
     clear c51
     (first | rw [c51b0] | (simp only [i64_w, i32_w]; rw [c51b0]) | skip)
     have H' := Aside0.mk H
     clear H
     go_wp2
     go_meet
     case rel => exact ⟨_, ((t423 != t425)), (by first | rfl | (simp; done) | (simp [*]; done)), H', ⟨by first | omega | exact Nat.le_refl _⟩, ⟨by repeat (first | (with_reducible first | exact HB.out | apply below_alloc | apply pw_below_drewN | apply below_drew1) | exact HB.out)⟩⟩
    ·
     rw [if_neg c51] at H
     have c51b0 : (t422 == t424) = false := beq_eq_false_iff_ne.mpr c51
     have c51b1 : (t422 != t424) = true := bne_iff_ne.mpr c51
     (first | rw [c51b0] | (simp only [i64_w, i32_w]; rw [c51b0]) | skip)
     have H' := Aside0.mk H
     clear H
     go_wp2
     go_meet
     case rel => exact ⟨_, (true), (by first | rfl | (simp; done) | (simp [*]; done)), H', ⟨by first | omega | exact Nat.le_refl _⟩, ⟨by repeat (first | (with_reducible first | exact HB.out | apply below_alloc | apply pw_below_drewN | apply below_drew1) | exact HB.out)⟩⟩
   case rest =>
    clear HC48
    try clear c1
    try clear c2
    try clear p2
    try clear c3
    try clear c4
    try clear c5
    try clear c5b0
    try clear c5b1
    try clear c6
    try clear c6b0
    try clear c6b1
    try clear c7
    try clear c8
    try clear c9
    try clear c14
    try clear c14b0
    try clear c14b1
    try clear c15
    try clear c16
    try clear c17
    try clear c17b0
    try clear c19
    try clear c20
    try clear c21
    try clear c22
    try clear c23
    try clear c35
    try clear c35b0
    try clear c35b1
    try clear c36
    try clear c37
    try clear c38
    try clear c38b0
    try clear c40
    try clear c45
    try clear c51
    try clear c51b0
    try clear c51b1
    try clear p2
    obtain ⟨kq, x47_47, rfl, HA, HJ47, HB⟩ := hcut
    cases kq with
    | zero => exact absurd HA.out (by simp [customslaw24_ProcedureDeadline.j2])
    | succ kj47 =>
     have H := HA.out
     clear HA
     simp only [customslaw24_ProcedureDeadline.j2] at H
     by_cases c52 : x47_47 = true
     ·
      subst c52
      have H1 : (some false) = some r := by rw [if_pos rfl] at H; exact H
      clear H
      have H := H1
      clear H1
      obtain rfl := Option.some.inj H
      go_wp2
      go_ret
      exact ⟨by first | rfl | (simp [errW_none, errW_some] <;> rfl) | (simp [*, errW_none, errW_some] <;> rfl), by repeat (first | (with_reducible first | exact HB.out | apply below_alloc | apply pw_below_drewN | apply below_drew1) | exact HB.out)⟩
     ·
      replace c52 := Bool.eq_false_iff.mpr c52
      subst c52
      have H1 : (if t423 = true then (if t422 ≥ a1 then ((calendar_Working.f kj47 l2 t422).bind fun t426 => (if t426 = true then ((customslaw24_awake.f kj47).bind fun t427 => (some t427)) else (some false))) else (some false)) else ((customslaw24_awake.f kj47).bind fun t428 => (some t428))) = some r := by rw [if_neg (show ¬ (false = true) by decide)] at H; exact H
      clear H
      have H := H1
      clear H1
      by_cases c53 : t423 = true
      ·
       subst c53
       have H1 : (if t422 ≥ a1 then ((calendar_Working.f kj47 l2 t422).bind fun t426 => (if t426 = true then ((customslaw24_awake.f kj47).bind fun t427 => (some t427)) else (some false))) else (some false)) = some r := by rw [if_pos rfl] at H; exact H
       clear H
       have H := H1
       clear H1
       by_cases c54 : t422 ≥ a1
       ·
        rw [if_pos c54] at H
        have c54b0 : decide (a1 ≤ t422) = true := decide_eq_true c54
        clear c54
        replace H := Option.bind_eq_some_iff.mp H
        obtain ⟨t426, A550, H⟩ := H
        replace H : (if t426 = true then ((customslaw24_awake.f kj47).bind fun t427 => (some t427)) else (some false)) = some r := H
        have A55 := Aside0.mk A550
        clear A550
        by_cases c56 : t426 = true
        ·
         subst c56
         have H1 : ((customslaw24_awake.f kj47).bind fun t427 => (some t427)) = some r := by rw [if_pos rfl] at H; exact H
         clear H
         have H := H1
         clear H1
         replace H := Option.bind_eq_some_iff.mp H
         obtain ⟨t427, A570, H⟩ := H
         replace H : (some t427) = some r := H
         have A57 := Aside0.mk A570
         clear A570
         obtain rfl := Option.some.inj H
         go_wp2_with (first | (go_at_call 24; (with_reducible refine (calendar_Working.calls kj47 _ _ l2 t422 true _ ?side1 ?side2 A55.out).mono ?_); (case side1 => repeat (first | exact (Kd.C_below HR2.out HB.out) | (with_reducible refine Kd.C_alloc ?_ _) | (with_reducible refine Kd.C_drewN ?_ _) | (with_reducible refine Kd.C_drew ?_))); (case side2 => exact HC2.out); rintro e w' ⟨rfl, ⟨nd, rfl⟩⟩) | (go_at_call 14; (with_reducible refine (customslaw24_awake.calls kj47  t427 _ ?side1 A57.out).mono ?_); (case side1 => exact GL_transitions.of_below (by repeat (first | (with_reducible first | exact HB.out | apply below_alloc | apply pw_below_drewN | apply below_drew1) | exact HB.out)) HG_transitions.out); rintro e w58 ⟨rfl, hb⟩; have n0_ := Aside0.mk (below_step (by repeat (first | (with_reducible first | exact HB.out | apply below_alloc | apply pw_below_drewN | apply below_drew1) | exact HB.out)) hb); clear HB; have HB := n0_; clear n0_; (try clear hb); (try clear hb2); (try clear hk); (try clear hi)))
         go_ret
         exact ⟨by first | rfl | (simp [errW_none, errW_some] <;> rfl) | (simp [*, errW_none, errW_some] <;> rfl), by repeat (first | (with_reducible first | exact HB.out | apply below_alloc | apply pw_below_drewN | apply below_drew1) | exact HB.out)⟩
        ·
         replace c56 := Bool.eq_false_iff.mpr c56
         subst c56
         have H1 : (some false) = some r := by rw [if_neg (show ¬ (false = true) by decide)] at H; exact H
         clear H
         have H := H1
         clear H1
         obtain rfl := Option.some.inj H
         go_wp2_with (first | (go_at_call 24; (with_reducible refine (calendar_Working.calls kj47 _ _ l2 t422 false _ ?side1 ?side2 A55.out).mono ?_); (case side1 => repeat (first | exact (Kd.C_below HR2.out HB.out) | (with_reducible refine Kd.C_alloc ?_ _) | (with_reducible refine Kd.C_drewN ?_ _) | (with_reducible refine Kd.C_drew ?_))); (case side2 => exact HC2.out); rintro e w' ⟨rfl, ⟨nd, rfl⟩⟩))
         go_ret
         exact ⟨by first | rfl | (simp [errW_none, errW_some] <;> rfl) | (simp [*, errW_none, errW_some] <;> rfl), by repeat (first | (with_reducible first | exact HB.out | apply below_alloc | apply pw_below_drewN | apply below_drew1) | exact HB.out)⟩
       ·
        rw [if_neg c54] at H
        have c54b0 : decide (a1 ≤ t422) = false := decide_eq_false c54
        clear c54
        obtain rfl := Option.some.inj H
        go_wp2
        go_ret
        exact ⟨by first | rfl | (simp [errW_none, errW_some] <;> rfl) | (simp [*, errW_none, errW_some] <;> rfl), by repeat (first | (with_reducible first | exact HB.out | apply below_alloc | apply pw_below_drewN | apply below_drew1) | exact HB.out)⟩
      ·
       replace c53 := Bool.eq_false_iff.mpr c53
       subst c53
       have H1 : ((customslaw24_awake.f kj47).bind fun t428 => (some t428)) = some r := by rw [if_neg (show ¬ (false = true) by decide)] at H; exact H
       clear H
       have H := H1
       clear H1
       replace H := Option.bind_eq_some_iff.mp H
       obtain ⟨t428, A590, H⟩ := H
       replace H : (some t428) = some r := H
       have A59 := Aside0.mk A590
       clear A590
       obtain rfl := Option.some.inj H
       go_wp2_with (first | (go_at_call 14; (with_reducible refine (customslaw24_awake.calls kj47  t428 _ ?side1 A59.out).mono ?_); (case side1 => exact GL_transitions.of_below (by repeat (first | (with_reducible first | exact HB.out | apply below_alloc | apply pw_below_drewN | apply below_drew1) | exact HB.out)) HG_transitions.out); rintro e w60 ⟨rfl, hb⟩; have n0_ := Aside0.mk (below_step (by repeat (first | (with_reducible first | exact HB.out | apply below_alloc | apply pw_below_drewN | apply below_drew1) | exact HB.out)) hb); clear HB; have HB := n0_; clear n0_; (try clear hb); (try clear hb2); (try clear hk); (try clear hi)))
       go_ret
       exact ⟨by first | rfl | (simp [errW_none, errW_some] <;> rfl) | (simp [*, errW_none, errW_some] <;> rfl), by repeat (first | (with_reducible first | exact HB.out | apply below_alloc | apply pw_below_drewN | apply below_drew1) | exact HB.out)⟩
  ·
   replace c45 := Bool.eq_false_iff.mpr c45
   subst c45
   have H1 : ((customsmade_Within.f a0 14).bind fun t417 => ((customsmade_Day.f a1).bind fun t418 => ((customsmade_Holidays.f k l2).bind fun t419 => ((procedure_Deadline.f k t417 t418 t419).bind fun bt429 => ((customsref24_Deadline.f k t417 t418 t419).bind fun bt431 => (if bt429.1 = bt431.1 then (customslaw24_ProcedureDeadline.j3 k t418 t419 bt429.1 bt429.2 (bt429.2 != bt431.2)) else (customslaw24_ProcedureDeadline.j3 k t418 t419 bt429.1 bt429.2 true))))))) = some r := by rw [if_neg (show ¬ (false = true) by decide)] at H; exact H
   clear H
   have H := H1
   clear H1
   replace H := Option.bind_eq_some_iff.mp H
   obtain ⟨t417, A610, H⟩ := H
   replace H : ((customsmade_Day.f a1).bind fun t418 => ((customsmade_Holidays.f k l2).bind fun t419 => ((procedure_Deadline.f k t417 t418 t419).bind fun bt429 => ((customsref24_Deadline.f k t417 t418 t419).bind fun bt431 => (if bt429.1 = bt431.1 then (customslaw24_ProcedureDeadline.j3 k t418 t419 bt429.1 bt429.2 (bt429.2 != bt431.2)) else (customslaw24_ProcedureDeadline.j3 k t418 t419 bt429.1 bt429.2 true)))))) = some r := H
   have A61 := Aside0.mk A610
   clear A610
   replace H := Option.bind_eq_some_iff.mp H
   obtain ⟨t418, A620, H⟩ := H
   replace H : ((customsmade_Holidays.f k l2).bind fun t419 => ((procedure_Deadline.f k t417 t418 t419).bind fun bt429 => ((customsref24_Deadline.f k t417 t418 t419).bind fun bt431 => (if bt429.1 = bt431.1 then (customslaw24_ProcedureDeadline.j3 k t418 t419 bt429.1 bt429.2 (bt429.2 != bt431.2)) else (customslaw24_ProcedureDeadline.j3 k t418 t419 bt429.1 bt429.2 true))))) = some r := H
   have A62 := Aside0.mk A620
   clear A620
   replace H := Option.bind_eq_some_iff.mp H
   obtain ⟨t419, A630, H⟩ := H
   replace H : ((procedure_Deadline.f k t417 t418 t419).bind fun bt429 => ((customsref24_Deadline.f k t417 t418 t419).bind fun bt431 => (if bt429.1 = bt431.1 then (customslaw24_ProcedureDeadline.j3 k t418 t419 bt429.1 bt429.2 (bt429.2 != bt431.2)) else (customslaw24_ProcedureDeadline.j3 k t418 t419 bt429.1 bt429.2 true)))) = some r := H
   have A63 := Aside0.mk A630
   clear A630
   replace H := Option.bind_eq_some_iff.mp H
   obtain ⟨⟨t429, t430⟩, A640, H⟩ := H
   replace H : ((customsref24_Deadline.f k t417 t418 t419).bind fun bt431 => (if t429 = bt431.1 then (customslaw24_ProcedureDeadline.j3 k t418 t419 t429 t430 (t430 != bt431.2)) else (customslaw24_ProcedureDeadline.j3 k t418 t419 t429 t430 true))) = some r := H
   have A64 := Aside0.mk A640
   clear A640
   replace H := Option.bind_eq_some_iff.mp H
   obtain ⟨⟨t431, t432⟩, A650, H⟩ := H
   replace H : (if t429 = t431 then (customslaw24_ProcedureDeadline.j3 k t418 t419 t429 t430 (t430 != t432)) else (customslaw24_ProcedureDeadline.j3 k t418 t419 t429 t430 true)) = some r := H
   have A65 := Aside0.mk A650
   clear A650
   have HC66 := Aside0.mk H
   clear H
   go_enter Tryd.func8, Tryd.ntmps8
   go_upto_region 7 with (first | ((with_reducible refine gate_callee (f := 9) rfl ?_); refine goesL_ (some 21) rfl rfl Tryd.func9 (by kernel_rfl) rfl #[.int .i64 a0, .int .i64 14] rfl (by (try simp only [List.map_toArray, List.map_cons, List.map_nil]); first | done | rfl | (simp only [List.length_drop, List.length_take]; rfl)) ?_; (with_reducible refine (customsmade_Within.calls a0 14 t417 _ A61.out).mono ?_); rintro e w' ⟨rfl, ⟨nd, rfl⟩⟩; refine ⟨_, rfl, ?_⟩) | ((with_reducible refine gate_callee (f := 20) rfl ?_); refine goesL_ (some 23) rfl rfl Tryd.func20 (by kernel_rfl) rfl #[.int .i64 a1] rfl (by (try simp only [List.map_toArray, List.map_cons, List.map_nil]); first | done | rfl | (simp only [List.length_drop, List.length_take]; rfl)) ?_; (with_reducible refine (customsmade_Day.calls a1 t418 _ A62.out).mono ?_); rintro e w' ⟨rfl, ⟨nd, rfl⟩⟩; refine ⟨_, rfl, ?_⟩) | ((with_reducible refine gate_callee (f := 21) rfl ?_); refine goesL_ (some 25) rfl rfl Tryd.func21 (by kernel_rfl) rfl #[.slice A2 l2.length c2] rfl (by (try simp only [List.map_toArray, List.map_cons, List.map_nil]); first | done | rfl | (simp only [List.length_drop, List.length_take]; rfl)) ?_; (with_reducible refine (customsmade_Holidays.calls k _ _ l2 t419 _ ?side1 ?side2 A63.out).mono ?_); (case side1 => repeat (first | exact HR2.out | (with_reducible refine Kd.C_alloc ?_ _) | (with_reducible refine Kd.C_drewN ?_ _) | (with_reducible refine Kd.C_drew ?_))); (case side2 => exact HC2.out); rintro e w67 ⟨v420, rfl, ho0, hb⟩; refine ⟨_, rfl, ?_⟩; have n0_ := Aside0.mk (Kd.R_lower ho0 (below_size (by repeat (first | (with_reducible first | exact HB.out | apply below_alloc | apply pw_below_drewN | apply below_drew1) | exact HB.out)))); have n1_ := Aside0.mk (below_step (by repeat (first | (with_reducible first | exact HB.out | apply below_alloc | apply pw_below_drewN | apply below_drew1) | exact HB.out)) hb); clear HB; have HO421 := n0_; have HB := n1_; clear n0_ n1_; (try clear hb); (try clear hb2); (try clear hk); (try clear hi); (try clear ho0); obtain ⟨Ao68, co68, eo68⟩ := Kd.R_slice HO421.out; subst eo68) | ((with_reducible refine gate_callee (f := 22) rfl ?_); refine goesL_ (some 30) rfl rfl Tryd.func22 (by kernel_rfl) rfl #[.int .i64 t417, .int .i64 t418, .slice Ao68 t419.length co68] rfl (by (try simp only [List.map_toArray, List.map_cons, List.map_nil]); first | done | rfl | (simp only [List.length_drop, List.length_take]; rfl)) ?_; (with_reducible refine (procedure_Deadline.calls k t417 t418 _ _ t419 t429 t430 _ ?side1 ?side2 ?side3 A64.out).mono ?_); (case side1 => repeat (first | exact (Kd.R_reads' HO421.out).2.2 | (with_reducible refine Kd.C_alloc ?_ _) | (with_reducible refine Kd.C_drewN ?_ _) | (with_reducible refine Kd.C_drew ?_))); (case side2 => exact (Kd.R_reads' HO421.out).2.1); (case side3 => exact GL_lengths.of_below (by repeat (first | (with_reducible first | exact HB.out | apply below_alloc | apply pw_below_drewN | apply below_drew1) | exact HB.out)) HG_lengths.out); rintro e w69 ⟨rfl, hb⟩; refine ⟨_, rfl, ?_⟩; have n0_ := Aside0.mk (Kd.R_below (by (with_reducible repeat (first | apply Kd.R_alloc | apply Kd.R_drewN | apply Kd.R_drew)); exact HO421.out) hb); have n1_ := Aside0.mk (below_step (by repeat (first | (with_reducible first | exact HB.out | apply below_alloc | apply pw_below_drewN | apply below_drew1) | exact HB.out)) hb); clear HO421; clear HB; have HO421 := n0_; have HB := n1_; clear n0_ n1_; (try clear hb); (try clear hb2); (try clear hk); (try clear hi)) | ((with_reducible refine gate_callee (f := 23) rfl ?_); refine goesL_ (some 37) rfl rfl Tryd.func23 (by kernel_rfl) rfl #[.int .i64 t417, .int .i64 t418, .slice Ao68 t419.length co68] rfl (by (try simp only [List.map_toArray, List.map_cons, List.map_nil]); first | done | rfl | (simp only [List.length_drop, List.length_take]; rfl)) ?_; (with_reducible refine (customsref24_Deadline.calls k t417 t418 _ _ t419 t431 t432 _ ?side1 ?side2 A65.out).mono ?_); (case side1 => repeat (first | exact (Kd.R_reads' HO421.out).2.2 | (with_reducible refine Kd.C_alloc ?_ _) | (with_reducible refine Kd.C_drewN ?_ _) | (with_reducible refine Kd.C_drew ?_))); (case side2 => exact (Kd.R_reads' HO421.out).2.1); rintro e w70 ⟨rfl, hb⟩; refine ⟨_, rfl, ?_⟩; have n0_ := Aside0.mk (Kd.R_below (by (with_reducible repeat (first | apply Kd.R_alloc | apply Kd.R_drewN | apply Kd.R_drew)); exact HO421.out) hb); have n1_ := Aside0.mk (below_step (by repeat (first | (with_reducible first | exact HB.out | apply below_alloc | apply pw_below_drewN | apply below_drew1) | exact HB.out)) hb); clear HO421; clear HB; have HO421 := n0_; have HB := n1_; clear n0_ n1_; (try clear hb); (try clear hb2); (try clear hk); (try clear hi)))
   (try simp only [Act.put, List.setIfInBounds_toArray, List.set_cons_zero, List.set_cons_succ])
   go_cut [47] (fun v47 wc => ∃ (kq : Nat) (x47_65 : Bool), v47 = .bool x47_65 ∧ Aside0 (customslaw24_ProcedureDeadline.j3 kq t418 t419 t429 t430 x47_65 = some r) ∧ Aside0 (kq ≤ k) ∧ Aside0 (Kd.R (Kd.int .i64) 3 wc w.heap.size (fun _ => True) (.slice Ao68 t419.length co68) t419) ∧ Aside0 (Below w.heap.size w wc))
   case first =>
    have H := HC66.out
    clear HC66
    by_cases c71 : t429 = t431
    ·
     rw [if_pos c71] at H
     have c71b0 : (t429 == t431) = true := beq_iff_eq.mpr c71
     have c71b1 : (t429 != t431) = false := bne_eq_false_iff_eq.mpr c71
     clear c71
     (first | rw [c71b0] | (simp only [i64_w, i32_w]; rw [c71b0]) | skip)
     have H' := Aside0.mk H
     clear H
     go_wp2
     go_meet
     case rel => exact ⟨_, ((t430 != t432)), (by first | rfl | (simp; done) | (simp [*]; done)), H', ⟨by first | omega | exact Nat.le_refl _⟩, ⟨by (with_reducible repeat (first | apply Kd.R_alloc | apply Kd.R_drewN | apply Kd.R_drew)); exact HO421.out⟩, ⟨by repeat (first | (with_reducible first | exact HB.out | apply below_alloc | apply pw_below_drewN | apply below_drew1) | exact HB.out)⟩⟩
    ·
     rw [if_neg c71] at H
     have c71b0 : (t429 == t431) = false := beq_eq_false_iff_ne.mpr c71
     have c71b1 : (t429 != t431) = true := bne_iff_ne.mpr c71
     (first | rw [c71b0] | (simp only [i64_w, i32_w]; rw [c71b0]) | skip)
     have H' := Aside0.mk H
     clear H
     go_wp2
     go_meet
     case rel => exact ⟨_, (true), (by first | rfl | (simp; done) | (simp [*]; done)), H', ⟨by first | omega | exact Nat.le_refl _⟩, ⟨by (with_reducible repeat (first | apply Kd.R_alloc | apply Kd.R_drewN | apply Kd.R_drew)); exact HO421.out⟩, ⟨by repeat (first | (with_reducible first | exact HB.out | apply below_alloc | apply pw_below_drewN | apply below_drew1) | exact HB.out)⟩⟩
   case rest =>
    clear HC66
    try clear c1
    try clear c2
    try clear p2
    try clear c3
    try clear c4
    try clear c5
    try clear c5b0
    try clear c5b1
    try clear c6
    try clear c6b0
    try clear c6b1
    try clear c7
    try clear c8
    try clear c9
    try clear c14
    try clear c14b0
    try clear c14b1
    try clear c15
    try clear c16
    try clear c17
    try clear c17b0
    try clear c19
    try clear c20
    try clear c21
    try clear c22
    try clear c23
    try clear c35
    try clear c35b0
    try clear c35b1
    try clear c36
    try clear c37
    try clear c38
    try clear c38b0
    try clear c40
    try clear c45
    try clear c51
    try clear c51b0
    try clear c51b1
    try clear c52
    try clear c53
    try clear c54
    try clear c54b0
    try clear c56
    try clear c71
    try clear c71b0
    try clear c71b1
    try clear p2
    obtain ⟨kq, x47_65, rfl, HA, HJ65, HO_2, HB⟩ := hcut
    cases kq with
    | zero => exact absurd HA.out (by simp [customslaw24_ProcedureDeadline.j3])
    | succ kj65 =>
     have H := HA.out
     clear HA
     simp only [customslaw24_ProcedureDeadline.j3] at H
     by_cases c72 : x47_65 = true
     ·
      subst c72
      have H1 : (some false) = some r := by rw [if_pos rfl] at H; exact H
      clear H
      have H := H1
      clear H1
      obtain rfl := Option.some.inj H
      go_wp2
      go_ret
      exact ⟨by first | rfl | (simp [errW_none, errW_some] <;> rfl) | (simp [*, errW_none, errW_some] <;> rfl), by repeat (first | (with_reducible first | exact HB.out | apply below_alloc | apply pw_below_drewN | apply below_drew1) | exact HB.out)⟩
     ·
      replace c72 := Bool.eq_false_iff.mpr c72
      subst c72
      have H1 : (if t430 = true then (if t429 ≥ t418 then ((calendar_Working.f kj65 t419 t429).bind fun t433 => (if t433 = true then ((customslaw24_awake.f kj65).bind fun t434 => (some t434)) else (some false))) else (some false)) else ((customslaw24_awake.f kj65).bind fun t435 => (some t435))) = some r := by rw [if_neg (show ¬ (false = true) by decide)] at H; exact H
      clear H
      have H := H1
      clear H1
      by_cases c73 : t430 = true
      ·
       subst c73
       have H1 : (if t429 ≥ t418 then ((calendar_Working.f kj65 t419 t429).bind fun t433 => (if t433 = true then ((customslaw24_awake.f kj65).bind fun t434 => (some t434)) else (some false))) else (some false)) = some r := by rw [if_pos rfl] at H; exact H
       clear H
       have H := H1
       clear H1
       by_cases c74 : t429 ≥ t418
       ·
        rw [if_pos c74] at H
        have c74b0 : decide (t418 ≤ t429) = true := decide_eq_true c74
        clear c74
        replace H := Option.bind_eq_some_iff.mp H
        obtain ⟨t433, A750, H⟩ := H
        replace H : (if t433 = true then ((customslaw24_awake.f kj65).bind fun t434 => (some t434)) else (some false)) = some r := H
        have A75 := Aside0.mk A750
        clear A750
        by_cases c76 : t433 = true
        ·
         subst c76
         have H1 : ((customslaw24_awake.f kj65).bind fun t434 => (some t434)) = some r := by rw [if_pos rfl] at H; exact H
         clear H
         have H := H1
         clear H1
         replace H := Option.bind_eq_some_iff.mp H
         obtain ⟨t434, A770, H⟩ := H
         replace H : (some t434) = some r := H
         have A77 := Aside0.mk A770
         clear A770
         obtain rfl := Option.some.inj H
         go_wp2_with (first | (go_at_call 24; (with_reducible refine (calendar_Working.calls kj65 _ _ t419 t429 true _ ?side1 ?side2 A75.out).mono ?_); (case side1 => repeat (first | exact (Kd.R_reads' HO_2.out).2.2 | (with_reducible refine Kd.C_alloc ?_ _) | (with_reducible refine Kd.C_drewN ?_ _) | (with_reducible refine Kd.C_drew ?_))); (case side2 => exact (Kd.R_reads' HO_2.out).2.1); rintro e w' ⟨rfl, ⟨nd, rfl⟩⟩) | (go_at_call 14; (with_reducible refine (customslaw24_awake.calls kj65  t434 _ ?side1 A77.out).mono ?_); (case side1 => exact GL_transitions.of_below (by repeat (first | (with_reducible first | exact HB.out | apply below_alloc | apply pw_below_drewN | apply below_drew1) | exact HB.out)) HG_transitions.out); rintro e w78 ⟨rfl, hb⟩; have n0_ := Aside0.mk (Kd.R_below (by (with_reducible repeat (first | apply Kd.R_alloc | apply Kd.R_drewN | apply Kd.R_drew)); exact HO_2.out) hb); have n1_ := Aside0.mk (below_step (by repeat (first | (with_reducible first | exact HB.out | apply below_alloc | apply pw_below_drewN | apply below_drew1) | exact HB.out)) hb); clear HO_2; clear HB; have HO_2 := n0_; have HB := n1_; clear n0_ n1_; (try clear hb); (try clear hb2); (try clear hk); (try clear hi)))
         go_ret
         exact ⟨by first | rfl | (simp [errW_none, errW_some] <;> rfl) | (simp [*, errW_none, errW_some] <;> rfl), by repeat (first | (with_reducible first | exact HB.out | apply below_alloc | apply pw_below_drewN | apply below_drew1) | exact HB.out)⟩
        ·
         replace c76 := Bool.eq_false_iff.mpr c76
         subst c76
         have H1 : (some false) = some r := by rw [if_neg (show ¬ (false = true) by decide)] at H; exact H
         clear H
         have H := H1
         clear H1
         obtain rfl := Option.some.inj H
         go_wp2_with (first | (go_at_call 24; (with_reducible refine (calendar_Working.calls kj65 _ _ t419 t429 false _ ?side1 ?side2 A75.out).mono ?_); (case side1 => repeat (first | exact (Kd.R_reads' HO_2.out).2.2 | (with_reducible refine Kd.C_alloc ?_ _) | (with_reducible refine Kd.C_drewN ?_ _) | (with_reducible refine Kd.C_drew ?_))); (case side2 => exact (Kd.R_reads' HO_2.out).2.1); rintro e w' ⟨rfl, ⟨nd, rfl⟩⟩))
         go_ret
         exact ⟨by first | rfl | (simp [errW_none, errW_some] <;> rfl) | (simp [*, errW_none, errW_some] <;> rfl), by repeat (first | (with_reducible first | exact HB.out | apply below_alloc | apply pw_below_drewN | apply below_drew1) | exact HB.out)⟩
       ·
        rw [if_neg c74] at H
        have c74b0 : decide (t418 ≤ t429) = false := decide_eq_false c74
        clear c74
        obtain rfl := Option.some.inj H
        go_wp2
        go_ret
        exact ⟨by first | rfl | (simp [errW_none, errW_some] <;> rfl) | (simp [*, errW_none, errW_some] <;> rfl), by repeat (first | (with_reducible first | exact HB.out | apply below_alloc | apply pw_below_drewN | apply below_drew1) | exact HB.out)⟩
      ·
       replace c73 := Bool.eq_false_iff.mpr c73
       subst c73
       have H1 : ((customslaw24_awake.f kj65).bind fun t435 => (some t435)) = some r := by rw [if_neg (show ¬ (false = true) by decide)] at H; exact H
       clear H
       have H := H1
       clear H1
       replace H := Option.bind_eq_some_iff.mp H
       obtain ⟨t435, A790, H⟩ := H
       replace H : (some t435) = some r := H
       have A79 := Aside0.mk A790
       clear A790
       obtain rfl := Option.some.inj H
       go_wp2_with (first | (go_at_call 14; (with_reducible refine (customslaw24_awake.calls kj65  t435 _ ?side1 A79.out).mono ?_); (case side1 => exact GL_transitions.of_below (by repeat (first | (with_reducible first | exact HB.out | apply below_alloc | apply pw_below_drewN | apply below_drew1) | exact HB.out)) HG_transitions.out); rintro e w80 ⟨rfl, hb⟩; have n0_ := Aside0.mk (Kd.R_below (by (with_reducible repeat (first | apply Kd.R_alloc | apply Kd.R_drewN | apply Kd.R_drew)); exact HO_2.out) hb); have n1_ := Aside0.mk (below_step (by repeat (first | (with_reducible first | exact HB.out | apply below_alloc | apply pw_below_drewN | apply below_drew1) | exact HB.out)) hb); clear HO_2; clear HB; have HO_2 := n0_; have HB := n1_; clear n0_ n1_; (try clear hb); (try clear hb2); (try clear hk); (try clear hi)))
       go_ret
       exact ⟨by first | rfl | (simp [errW_none, errW_some] <;> rfl) | (simp [*, errW_none, errW_some] <;> rfl), by repeat (first | (with_reducible first | exact HB.out | apply below_alloc | apply pw_below_drewN | apply below_drew1) | exact HB.out)⟩

/-- THE ONE PURE STATEMENT of customslaw24_ProcedureDeadline: yours. -/
def customslaw24_ProcedureDeadline.Pure : Prop := ∀ (a0 : Int) (a1 : Int) (l2 : List Int) (a3 : Bool), (Lit.int .i64 a0).wf = true → (Lit.int .i64 a1).wf = true → l2.length ≤ maxLen → l2.length * 8 ≤ 140737488351232 → (∀ x ∈ l2, (Lit.int .i64 x).wf = true) → ∃ k, customslaw24_ProcedureDeadline.f k a0 a1 l2 a3 = some true
theorem customslaw24_ProcedureDeadline.walk (P : customslaw24_ProcedureDeadline.Pure) (a0 : Int) (a1 : Int) (a2 : Option Addr) (len2 cap2 : Nat) (z2 : List Int) (a3 : Bool) (w : World) (hG_lengths : GL_lengths w) (hG_transitions : GL_transitions w) (w0 : (Lit.int .i64 a0).wf = true) (w1 : (Lit.int .i64 a1).wf = true) (w2 : (a2 = none ∧ len2 = 0 ∧ cap2 = 0 ∧ z2 = []) ∨ ∃ x, a2 = some x ∧ len2 ≤ cap2 ∧ cap2 ≤ maxLen ∧ z2.length = cap2 ∧ (∀ i, i < z2.length → w.cell? (x.add i) = some (.int .i64 (z2.getD i 0))) ∧ ∀ n ∈ z2, (Lit.int .i64 n).wf = true) (y2 : len2 * 8 ≤ 140737488351232) :
  Calls Tryd.prog 8 #[.int .i64 a0, .int .i64 a1, .slice a2 len2 cap2, .bool a3] w fun e w' => e = .returned (.bool true) ∧ Below w.heap.size w w' := by
 obtain ⟨l2, rfl, hr2, hm2, hw2, hc2⟩ := ReadsInt.ofRowC w2
 obtain ⟨k, h⟩ := P a0 a1 l2 a3 w0 w1 hm2 y2 hw2
 refine (customslaw24_ProcedureDeadline.calls k a0 a1 _ _ l2 a3 true w (Kd.C_of_reads (d := (0 : Int)) (h1 := fun _ => rfl) hr2) hc2 hG_lengths hG_transitions h).mono ?_
 rintro e w' ⟨rfl, hd⟩
 exact ⟨rfl, hd⟩

end Go.Proofs.YtgmedimcejnkjaaDoor.G
