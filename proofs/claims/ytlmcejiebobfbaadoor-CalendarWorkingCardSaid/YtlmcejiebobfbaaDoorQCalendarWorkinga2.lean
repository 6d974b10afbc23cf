/-
  Functions of the program and of the references as plain Lean functions, each with a proof that the machine's call comes to what it answers. Conditions: what each contract states.
-/
import Derived.Test.YtlmcejiebobfbaaDoorQCorew1
import Derived.Test.YtlmcejiebobfbaaDoorQCalendarWorkingw1
import Derived.Test.YtlmcejiebobfbaaDoorQCorea1
import Derived.Test.YtlmcejiebobfbaaDoorQCorea2
import Derived.Test.YtlmcejiebobfbaaDoorQCorea3
import Derived.Test.YtlmcejiebobfbaaDoorQCalendarWorkinga1
namespace Go.Proofs.YtlmcejiebobfbaaDoor.G
open Go.RowKit Go.Proofs.YtlmcejiebobfbaaDoorW.PrintWords Go.Proofs.YtlmcejiebobfbaaDoorW.PrintLast Go.Proofs.YtlmcejiebobfbaaDoorW.PrintMore
attribute [local go_sem] max2_int min2_int max_two min_two max_three min_three max_four min_four   -- for this text's walks alone
set_option linter.unusedVariables false
set_option linter.unusedSimpArgs false

mutual
def customsref04_AddWorking.j0 : Nat → List Int → Int → Int → Bool → Option (Int × Int)
 | 0, _, _, _, _ => none
 | k + 1, x0, x1, x2, x24 => if x24 = true then (some (0, 2)) else (customsref04_AddWorking.l0 k x0 x1 x2)
def customsref04_AddWorking.l0 : Nat → List Int → Int → Int → Option (Int × Int)
 | 0, _, _, _ => none
 | k + 1, x0, x1, x2 => if x2 > 0 then ((customsref04_Day.f (wrap64 (x1 + 1))).bind fun t336 => (if t336 = true then ((customsref04_Working.f k x0 (wrap64 (x1 + 1))).bind fun t337 => (if t337 = true then (customsref04_AddWorking.l0 k x0 (wrap64 (x1 + 1)) (wrap64 (x2 - 1))) else (customsref04_AddWorking.l0 k x0 (wrap64 (x1 + 1)) x2))) else (some (0, 3)))) else (some (x1, 0))
end
def customsref04_AddWorking.f (k : Nat) (l0 : List Int) (a1 : Int) (a2 : Int) : Option (Int × Int) := (customsref04_Valid.f k l0).bind fun t334 => (if t334 = 0 then ((customsref04_Day.f a1).bind fun t335 => (if t335 = true then (if a2 < 0 then (customsref04_AddWorking.j0 k l0 a1 a2 true) else (customsref04_AddWorking.j0 k l0 a1 a2 (decide (a2 > 1000)))) else (customsref04_AddWorking.j0 k l0 a1 a2 true))) else (some (0, t334)))
set_option maxHeartbeats 8000000 in
set_option maxRecDepth 100000 in
theorem customsref04_AddWorking.calls (k : Nat) (A0 : Option Addr) (c0 : Nat) (l0 : List Int) (a1 : Int) (a2 : Int) (r1 : Int) (r2 : Int) (w : World) (hr0 : Kd.C (Kd.int .i64) w A0 l0.length l0) (hc0 : l0.length ≤ c0) (h : customsref04_AddWorking.f k l0 a1 a2 = some (r1, r2)) :
  Calls Tryd.prog 32 #[.slice A0 l0.length c0, .int .i64 a1, .int .i64 a2] w fun e w' => e = .returned (.tuple #[.int .i64 r1, .int .i64 r2]) ∧ Drawn0 w w' := by
 have HR0 := Aside0.mk hr0
 have HC0 := Aside0.mk hc0
 clear hr0 hc0
 have H : ((customsref04_Valid.f k l0).bind fun t334 => (if t334 = 0 then ((customsref04_Day.f a1).bind fun t335 => (if t335 = true then (if a2 < 0 then (customsref04_AddWorking.j0 k l0 a1 a2 true) else (customsref04_AddWorking.j0 k l0 a1 a2 (decide (a2 > 1000)))) else (customsref04_AddWorking.j0 k l0 a1 a2 true))) else (some (0, t334)))) = some (r1, r2) := h
 clear h
 replace H := Option.bind_eq_some_iff.mp H
 obtain ⟨t334, A40, H⟩ := H
 replace H : (if t334 = 0 then ((customsref04_Day.f a1).bind fun t335 => (if t335 = true then (if a2 < 0 then (customsref04_AddWorking.j0 k l0 a1 a2 true) else (customsref04_AddWorking.j0 k l0 a1 a2 (decide (a2 > 1000)))) else (customsref04_AddWorking.j0 k l0 a1 a2 true))) else (some (0, t334))) = some (r1, r2) := H
 have A4 := Aside0.mk A40
 clear A40
 by_cases c5 : t334 = 0
 ·
  rw [if_pos c5] at H
  have c5b0 : (t334 == 0) = true := beq_iff_eq.mpr c5
  have c5b1 : (t334 != 0) = false := bne_eq_false_iff_eq.mpr c5
  clear c5
  have HC6 := Aside0.mk H
  clear H
  go_enter Tryd.func32, Tryd.ntmps32
  go_upto_region 4 with (first | ((with_reducible refine gate_callee (f := 28) rfl ?_); refine goesL_ (some 10) rfl rfl Tryd.func28 (by kernel_rfl) rfl #[.slice A0 l0.length c0] rfl (by (try simp only [List.map_toArray, List.map_cons, List.map_nil]); first | done | rfl | (simp only [List.length_drop, List.length_take]; rfl)) ?_; (with_reducible refine (customsref04_Valid.calls k _ _ l0 t334 _ ?side1 ?side2 A4.out).mono ?_); (case side1 => repeat (first | exact HR0.out | (with_reducible refine Kd.C_alloc ?_ _) | (with_reducible refine Kd.C_drewN ?_ _) | (with_reducible refine Kd.C_drew ?_))); (case side2 => exact HC0.out); rintro e w' ⟨rfl, ⟨nd, rfl⟩⟩; refine ⟨_, rfl, ?_⟩))
  (try simp only [Act.put, List.setIfInBounds_toArray, List.set_cons_zero, List.set_cons_succ])
  go_cut [24] (fun v24 wc => ∃ (kq : Nat) (x24_5 : Bool), v24 = .bool x24_5 ∧ Aside0 (customsref04_AddWorking.j0 kq l0 a1 a2 x24_5 = some (r1, r2)) ∧ Aside0 (kq ≤ k) ∧ Drawn0 w wc)
  case first =>
   have H := HC6.out
   clear HC6
   replace H := Option.bind_eq_some_iff.mp H
   obtain ⟨t335, A70, H⟩ := H
   replace H : (if t335 = true then (if a2 < 0 then (customsref04_AddWorking.j0 k l0 a1 a2 true) else (customsref04_AddWorking.j0 k l0 a1 a2 (decide (a2 > 1000)))) else (customsref04_AddWorking.j0 k l0 a1 a2 true)) = some (r1, r2) := H
   have A7 := Aside0.mk A70
   clear A70
   by_cases c8 : t335 = true
   ·
    subst c8
    have H1 : (if a2 < 0 then (customsref04_AddWorking.j0 k l0 a1 a2 true) else (customsref04_AddWorking.j0 k l0 a1 a2 (decide (a2 > 1000)))) = some (r1, r2) := by rw [if_pos rfl] at H; exact H
    clear H
    have H := H1
    clear H1
    by_cases c9 : a2 < 0
    ·
     rw [if_pos c9] at H
     have c9b0 : decide (a2 < 0) = true := decide_eq_true c9
     clear c9
     (first | rw [c9b0] | (simp only [i64_w, i32_w]; rw [c9b0]) | skip)
     have H' := Aside0.mk H
     clear H
     go_wp2_with (first | ((with_reducible refine gate_callee (f := 36) rfl ?_); refine goesL_ (some 15) rfl rfl Tryd.func36 (by kernel_rfl) rfl #[.int .i64 a1] rfl (by (try simp only [List.map_toArray, List.map_cons, List.map_nil]); first | done | rfl | (simp only [List.length_drop, List.length_take]; rfl)) ?_; (with_reducible refine (customsref04_Day.calls a1 true _ A7.out).mono ?_); rintro e w' ⟨rfl, ⟨nd, rfl⟩⟩; refine ⟨_, rfl, ?_⟩))
     go_meet
     case rel => exact ⟨_, (true), (by first | rfl | (simp; done) | (simp [*]; done)), H', ⟨by first | omega | exact Nat.le_refl _⟩, by repeat (first | exact Drawn0.refl _ | apply Drawn0.step)⟩
    ·
     rw [if_neg c9] at H
     have c9b0 : decide (a2 < 0) = false := decide_eq_false c9
     clear c9
     (first | rw [c9b0] | (simp only [i64_w, i32_w]; rw [c9b0]) | skip)
     have H' := Aside0.mk H
     clear H
     go_wp2_with (first | ((with_reducible refine gate_callee (f := 36) rfl ?_); refine goesL_ (some 15) rfl rfl Tryd.func36 (by kernel_rfl) rfl #[.int .i64 a1] rfl (by (try simp only [List.map_toArray, List.map_cons, List.map_nil]); first | done | rfl | (simp only [List.length_drop, List.length_take]; rfl)) ?_; (with_reducible refine (customsref04_Day.calls a1 true _ A7.out).mono ?_); rintro e w' ⟨rfl, ⟨nd, rfl⟩⟩; refine ⟨_, rfl, ?_⟩))
     go_meet
     case rel => exact ⟨_, (decide (a2 > 1000)), (by first | rfl | (simp; done) | (simp [*]; done)), H', ⟨by first | omega | exact Nat.le_refl _⟩, by repeat (first | exact Drawn0.refl _ | apply Drawn0.step)⟩
   ·
    replace c8 := Bool.eq_false_iff.mpr c8
    subst c8
    have H1 : (customsref04_AddWorking.j0 k l0 a1 a2 true) = some (r1, r2) := by rw [if_neg (show ¬ (false = true) by decide)] at H; exact H
    clear H
    have H := H1
    clear H1
    have H' := Aside0.mk H
    clear H
    go_wp2_with (first | ((with_reducible refine gate_callee (f := 36) rfl ?_); refine goesL_ (some 15) rfl rfl Tryd.func36 (by kernel_rfl) rfl #[.int .i64 a1] rfl (by (try simp only [List.map_toArray, List.map_cons, List.map_nil]); first | done | rfl | (simp only [List.length_drop, List.length_take]; rfl)) ?_; (with_reducible refine (customsref04_Day.calls a1 false _ A7.out).mono ?_); rintro e w' ⟨rfl, ⟨nd, rfl⟩⟩; refine ⟨_, rfl, ?_⟩))
    go_meet
    case rel => exact ⟨_, (true), (by first | rfl | (simp; done) | (simp [*]; done)), H', ⟨by first | omega | exact Nat.le_refl _⟩, by repeat (first | exact Drawn0.refl _ | apply Drawn0.step)⟩
  case rest =>
   clear HC6
   try clear c2
   try clear p2
   try clear c3
   try clear c5
   try clear c5b0
   try clear c5b1
   try clear c8
   try clear c9
   try clear c9b0
   obtain ⟨kq, x24_5, rfl, HA, HJ5, ⟨mc5, rfl⟩⟩ := hcut
   cases kq with
   | zero => exact absurd HA.out (by simp [customsref04_AddWorking.j0])
   | succ kj5 =>
    have H := HA.out
    clear HA
    simp only [customsref04_AddWorking.j0] at H
    by_cases c10 : x24_5 = true
    ·
     subst c10
     have H1 : (some (0, 2)) = some (r1, r2) := by rw [if_pos rfl] at H; exact H
     clear H
     have H := H1
     clear H1
     simp only [Option.some.injEq, Prod.mk.injEq] at H
     obtain ⟨rfl, rfl⟩ := H
     go_wp2
     go_ret2
     exact ⟨by first | rfl | (simp; done) | (simp [*]; done), by repeat (first | exact Drawn0.refl _ | apply Drawn0.step)⟩
    ·
     replace c10 := Bool.eq_false_iff.mpr c10
     subst c10
     have H1 : (customsref04_AddWorking.l0 kj5 l0 a1 a2) = some (r1, r2) := by rw [if_neg (show ¬ (false = true) by decide)] at H; exact H
     clear H
     have H := H1
     clear H1
     have H' := Aside0.mk H
     clear H
     go_wp2
     go_loopg [1, 2] kj5 (fun kq v1 v2 w' => ∃ (x1_2 : Int) (x2_2 : Int), v1 = .int .i64 x1_2 ∧ v2 = .int .i64 x2_2 ∧ Aside0 (customsref04_AddWorking.l0 kq l0 x1_2 x2_2 = some (r1, r2)) ∧ Aside0 (kq ≤ kj5) ∧ Drawn0 w w')
     case atStart => exact ⟨(a1), (a2), (by first | rfl | (simp; done) | (simp [*]; done)), (by first | rfl | (simp; done) | (simp [*]; done)), H', ⟨Nat.le_refl _⟩, by repeat (first | exact Drawn0.refl _ | apply Drawn0.step)⟩
     case round =>
      clear H'
      try clear c1
      try clear c2
      try clear p2
      try clear c3
      try clear c5
      try clear c5b0
      try clear c5b1
      try clear c8
      try clear c9
      try clear c9b0
      try clear c10
      try clear p2
      obtain ⟨x1_2, x2_2, rfl, rfl, HA, HK2, ⟨m2, rfl⟩⟩ := hrel
      cases gk with
      | zero => exact absurd HA.out (by simp [customsref04_AddWorking.l0])
      | succ k2 =>
       have H := HA.out
       clear HA
       simp only [customsref04_AddWorking.l0] at H
       by_cases c11 : x2_2 > 0
       ·
        rw [if_pos c11] at H
        have c11b0 : decide (0 < x2_2) = true := decide_eq_true c11
        clear c11
        replace H := Option.bind_eq_some_iff.mp H
        obtain ⟨t336, A120, H⟩ := H
        replace H : (if t336 = true then ((customsref04_Working.f k2 l0 (wrap64 (x1_2 + 1))).bind fun t337 => (if t337 = true then (customsref04_AddWorking.l0 k2 l0 (wrap64 (x1_2 + 1)) (wrap64 (x2_2 - 1))) else (customsref04_AddWorking.l0 k2 l0 (wrap64 (x1_2 + 1)) x2_2))) else (some (0, 3))) = some (r1, r2) := H
        have A12 := Aside0.mk A120
        clear A120
        by_cases c13 : t336 = true
        ·
         subst c13
         have H1 : ((customsref04_Working.f k2 l0 (wrap64 (x1_2 + 1))).bind fun t337 => (if t337 = true then (customsref04_AddWorking.l0 k2 l0 (wrap64 (x1_2 + 1)) (wrap64 (x2_2 - 1))) else (customsref04_AddWorking.l0 k2 l0 (wrap64 (x1_2 + 1)) x2_2))) = some (r1, r2) := by rw [if_pos rfl] at H; exact H
         clear H
         have H := H1
         clear H1
         replace H := Option.bind_eq_some_iff.mp H
         obtain ⟨t337, A140, H⟩ := H
         replace H : (if t337 = true then (customsref04_AddWorking.l0 k2 l0 (wrap64 (x1_2 + 1)) (wrap64 (x2_2 - 1))) else (customsref04_AddWorking.l0 k2 l0 (wrap64 (x1_2 + 1)) x2_2)) = some (r1, r2) := H
         have A14 := Aside0.mk A140
         clear A140
         by_cases c15 : t337 = true
         ·
          subst c15
          have H1 : (customsref04_AddWorking.l0 k2 l0 (wrap64 (x1_2 + 1)) (wrap64 (x2_2 - 1))) = some (r1, r2) := by rw [if_pos rfl] at H; exact H
          clear H
          have H := H1
          clear H1
          have H' := Aside0.mk H
          clear H
          go_wp2_with (first | ((with_reducible refine gate_callee (f := 36) rfl ?_); refine goesL_ (some 30) rfl rfl Tryd.func36 (by kernel_rfl) rfl #[.int .i64 (wrap64 (x1_2 + 1))] rfl (by (try simp only [List.map_toArray, List.map_cons, List.map_nil]); first | done | rfl | (simp only [List.length_drop, List.length_take]; rfl)) ?_; (with_reducible refine (customsref04_Day.calls (wrap64 (x1_2 + 1)) true _ A12.out).mono ?_); rintro e w' ⟨rfl, ⟨nd, rfl⟩⟩; refine ⟨_, rfl, ?_⟩) | ((with_reducible refine gate_callee (f := 29) rfl ?_); refine goesL_ (some 34) rfl rfl Tryd.func29 (by kernel_rfl) rfl #[.slice A0 l0.length c0, .int .i64 (wrap64 (x1_2 + 1))] rfl (by (try simp only [List.map_toArray, List.map_cons, List.map_nil]); first | done | rfl | (simp only [List.length_drop, List.length_take]; rfl)) ?_; (with_reducible refine (customsref04_Working.calls k2 _ _ l0 (wrap64 (x1_2 + 1)) true _ ?side1 ?side2 A14.out).mono ?_); (case side1 => repeat (first | exact HR0.out | (with_reducible refine Kd.C_alloc ?_ _) | (with_reducible refine Kd.C_drewN ?_ _) | (with_reducible refine Kd.C_drew ?_))); (case side2 => exact HC0.out); rintro e w' ⟨rfl, ⟨nd, rfl⟩⟩; refine ⟨_, rfl, ?_⟩))
          go_roundg k2
          case measure => have := HJ5.out; have := HK2.out; omega
          case rel => exact ⟨(wrap64 (x1_2 + 1)), (wrap64 (x2_2 - 1)), (by first | rfl | (simp; done) | (simp [*]; done)), (by first | rfl | (simp; done) | (simp [*]; done)), H', ⟨by have := HJ5.out; have := HK2.out; omega⟩, by repeat (first | exact Drawn0.refl _ | apply Drawn0.step)⟩
         ·
          replace c15 := Bool.eq_false_iff.mpr c15
          subst c15
          have H1 : (customsref04_AddWorking.l0 k2 l0 (wrap64 (x1_2 + 1)) x2_2) = some (r1, r2) := by rw [if_neg (show ¬ (false = true) by decide)] at H; exact H
          clear H
          have H := H1
          clear H1
          have H' := Aside0.mk H
          clear H
          go_wp2_with (first | ((with_reducible refine gate_callee (f := 36) rfl ?_); refine goesL_ (some 30) rfl rfl Tryd.func36 (by kernel_rfl) rfl #[.int .i64 (wrap64 (x1_2 + 1))] rfl (by (try simp only [List.map_toArray, List.map_cons, List.map_nil]); first | done | rfl | (simp only [List.length_drop, List.length_take]; rfl)) ?_; (with_reducible refine (customsref04_Day.calls (wrap64 (x1_2 + 1)) true _ A12.out).mono ?_); rintro e w' ⟨rfl, ⟨nd, rfl⟩⟩; refine ⟨_, rfl, ?_⟩) | ((with_reducible refine gate_callee (f := 29) rfl ?_); refine goesL_ (some 34) rfl rfl Tryd.func29 (by kernel_rfl) rfl #[.slice A0 l0.length c0, .int .i64 (wrap64 (x1_2 + 1))] rfl (by (try simp only [List.map_toArray, List.map_cons, List.map_nil]); first | done | rfl | (simp only [List.length_drop, List.length_take]; rfl)) ?_; (with_reducible refine (customsref04_Working.calls k2 _ _ l0 (wrap64 (x1_2 + 1)) false _ ?side1 ?side2 A14.out).mono ?_); (case side1 => repeat (first | exact HR0.out | (with_reducible refine Kd.C_alloc ?_ _) | (with_reducible refine Kd.C_drewN ?_ _) | (with_reducible refine Kd.C_drew ?_))); (case side2 => exact HC0.out); rintro e w' ⟨rfl, ⟨nd, rfl⟩⟩; refine ⟨_, rfl, ?_⟩))
          go_roundg k2
          case measure => have := HJ5.out; have := HK2.out; omega
          case rel => exact ⟨(wrap64 (x1_2 + 1)), (x2_2), (by first | rfl | (simp; done) | (simp [*]; done)), (by first | rfl | (simp; done) | (simp [*]; done)), H', ⟨by have := HJ5.out; have := HK2.out; omega⟩, by repeat (first | exact Drawn0.refl _ | apply Drawn0.step)⟩
        ·
         replace c13 := Bool.eq_false_iff.mpr c13
         subst c13
         have H1 : (some (0, 3)) = some (r1, r2) := by rw [if_neg (show ¬ (false = true) by decide)] at H; exact H
         clear H
         have H := H1
         clear H1
         simp only [Option.some.injEq, Prod.mk.injEq] at H
         obtain ⟨rfl, rfl⟩ := H
         go_wp2_with (first | ((with_reducible refine gate_callee (f := 36) rfl ?_); refine goesL_ (some 30) rfl rfl Tryd.func36 (by kernel_rfl) rfl #[.int .i64 (wrap64 (x1_2 + 1))] rfl (by (try simp only [List.map_toArray, List.map_cons, List.map_nil]); first | done | rfl | (simp only [List.length_drop, List.length_take]; rfl)) ?_; (with_reducible refine (customsref04_Day.calls (wrap64 (x1_2 + 1)) false _ A12.out).mono ?_); rintro e w' ⟨rfl, ⟨nd, rfl⟩⟩; refine ⟨_, rfl, ?_⟩))
         go_ret2
         exact ⟨by first | rfl | (simp; done) | (simp [*]; done), by repeat (first | exact Drawn0.refl _ | apply Drawn0.step)⟩
       ·
        rw [if_neg c11] at H
        have c11b0 : decide (0 < x2_2) = false := decide_eq_false c11
        clear c11
        simp only [Option.some.injEq, Prod.mk.injEq] at H
        obtain ⟨rfl, rfl⟩ := H
        go_wp2
        go_ret2
        exact ⟨by first | rfl | (simp; done) | (simp [*]; done), by repeat (first | exact Drawn0.refl _ | apply Drawn0.step)⟩
 ·
  rw [if_neg c5] at H
  have c5b0 : (t334 == 0) = false := beq_eq_false_iff_ne.mpr c5
  have c5b1 : (t334 != 0) = true := bne_iff_ne.mpr c5
  simp only [Option.some.injEq, Prod.mk.injEq] at H
  obtain ⟨rfl, rfl⟩ := H
  go_enter Tryd.func32, Tryd.ntmps32
  go_wp2_with (first | ((with_reducible refine gate_callee (f := 28) rfl ?_); refine goesL_ (some 10) rfl rfl Tryd.func28 (by kernel_rfl) rfl #[.slice A0 l0.length c0] rfl (by (try simp only [List.map_toArray, List.map_cons, List.map_nil]); first | done | rfl | (simp only [List.length_drop, List.length_take]; rfl)) ?_; (with_reducible refine (customsref04_Valid.calls k _ _ l0 t334 _ ?side1 ?side2 A4.out).mono ?_); (case side1 => repeat (first | exact HR0.out | (with_reducible refine Kd.C_alloc ?_ _) | (with_reducible refine Kd.C_drewN ?_ _) | (with_reducible refine Kd.C_drew ?_))); (case side2 => exact HC0.out); rintro e w' ⟨rfl, ⟨nd, rfl⟩⟩; refine ⟨_, rfl, ?_⟩))
  go_ret2
  exact ⟨by first | rfl | (simp; done) | (simp [*]; done), by repeat (first | exact Drawn0.refl _ | apply Drawn0.step)⟩

end Go.Proofs.YtlmcejiebobfbaaDoor.G

namespace Go.Proofs.YtlmcejiebobfbaaDoor.G
open Go.RowKit Go.Proofs.YtlmcejiebobfbaaDoorW.PrintWords Go.Proofs.YtlmcejiebobfbaaDoorW.PrintLast Go.Proofs.YtlmcejiebobfbaaDoorW.PrintMore
attribute [local go_sem] max2_int min2_int max_two min_two max_three min_three max_four min_four   -- for this text's walks alone
set_option linter.unusedVariables false
set_option linter.unusedSimpArgs false

def calendar_AddWorking.f (k : Nat) (l0 : List Int) (a1 : Int) (a2 : Int) : Option (Int × Int) := (calendar_Valid.f k l0).bind fun t398 => (if t398 = 0 then ((calendar_valid.f a1).bind fun t399 => (if t399 = true then (if a2 < 0 then (some (0, 2)) else (if a2 > 1000 then (some (0, 2)) else ((calendar_add.f k l0 a1 a2).bind fun bt400 => (some (bt400.1, bt400.2))))) else (some (0, 2)))) else (some (0, t398)))
set_option maxHeartbeats 8000000 in
set_option maxRecDepth 100000 in
theorem calendar_AddWorking.calls (k : Nat) (A0 : Option Addr) (c0 : Nat) (l0 : List Int) (a1 : Int) (a2 : Int) (r1 : Int) (r2 : Int) (w : World) (hr0 : Kd.C (Kd.int .i64) w A0 l0.length l0) (hc0 : l0.length ≤ c0) (h : calendar_AddWorking.f k l0 a1 a2 = some (r1, r2)) :
  Calls Tryd.prog 26 #[.slice A0 l0.length c0, .int .i64 a1, .int .i64 a2] w fun e w' => e = .returned (.tuple #[.int .i64 r1, .int .i64 r2]) ∧ Drawn0 w w' := by
 have HR0 := Aside0.mk hr0
 have HC0 := Aside0.mk hc0
 clear hr0 hc0
 have H : ((calendar_Valid.f k l0).bind fun t398 => (if t398 = 0 then ((calendar_valid.f a1).bind fun t399 => (if t399 = true then (if a2 < 0 then (some (0, 2)) else (if a2 > 1000 then (some (0, 2)) else ((calendar_add.f k l0 a1 a2).bind fun bt400 => (some (bt400.1, bt400.2))))) else (some (0, 2)))) else (some (0, t398)))) = some (r1, r2) := h
 clear h
 replace H := Option.bind_eq_some_iff.mp H
 obtain ⟨t398, A40, H⟩ := H
 replace H : (if t398 = 0 then ((calendar_valid.f a1).bind fun t399 => (if t399 = true then (if a2 < 0 then (some (0, 2)) else (if a2 > 1000 then (some (0, 2)) else ((calendar_add.f k l0 a1 a2).bind fun bt400 => (some (bt400.1, bt400.2))))) else (some (0, 2)))) else (some (0, t398))) = some (r1, r2) := H
 have A4 := Aside0.mk A40
 clear A40
 by_cases c5 : t398 = 0
 ·
  rw [if_pos c5] at H
  have c5b0 : (t398 == 0) = true := beq_iff_eq.mpr c5
  have c5b1 : (t398 != 0) = false := bne_eq_false_iff_eq.mpr c5
  clear c5
  replace H := Option.bind_eq_some_iff.mp H
  obtain ⟨t399, A60, H⟩ := H
  replace H : (if t399 = true then (if a2 < 0 then (some (0, 2)) else (if a2 > 1000 then (some (0, 2)) else ((calendar_add.f k l0 a1 a2).bind fun bt400 => (some (bt400.1, bt400.2))))) else (some (0, 2))) = some (r1, r2) := H
  have A6 := Aside0.mk A60
  clear A60
  by_cases c7 : t399 = true
  ·
   subst c7
   have H1 : (if a2 < 0 then (some (0, 2)) else (if a2 > 1000 then (some (0, 2)) else ((calendar_add.f k l0 a1 a2).bind fun bt400 => (some (bt400.1, bt400.2))))) = some (r1, r2) := by rw [if_pos rfl] at H; exact H
   clear H
   have H := H1
   clear H1
   by_cases c8 : a2 < 0
   ·
    rw [if_pos c8] at H
    have c8b0 : decide (a2 < 0) = true := decide_eq_true c8
    clear c8
    simp only [Option.some.injEq, Prod.mk.injEq] at H
    obtain ⟨rfl, rfl⟩ := H
    go_enter Tryd.func26, Tryd.ntmps26
    go_wp2_with (first | ((with_reducible refine gate_callee (f := 27) rfl ?_); refine goesL_ (some 10) rfl rfl Tryd.func27 (by kernel_rfl) rfl #[.slice A0 l0.length c0] rfl (by (try simp only [List.map_toArray, List.map_cons, List.map_nil]); first | done | rfl | (simp only [List.length_drop, List.length_take]; rfl)) ?_; (with_reducible refine (calendar_Valid.calls k _ _ l0 t398 _ ?side1 ?side2 A4.out).mono ?_); (case side1 => repeat (first | exact HR0.out | (with_reducible refine Kd.C_alloc ?_ _) | (with_reducible refine Kd.C_drewN ?_ _) | (with_reducible refine Kd.C_drew ?_))); (case side2 => exact HC0.out); rintro e w' ⟨rfl, ⟨nd, rfl⟩⟩; refine ⟨_, rfl, ?_⟩) | ((with_reducible refine gate_callee (f := 33) rfl ?_); refine goesL_ (some 15) rfl rfl Tryd.func33 (by kernel_rfl) rfl #[.int .i64 a1] rfl (by (try simp only [List.map_toArray, List.map_cons, List.map_nil]); first | done | rfl | (simp only [List.length_drop, List.length_take]; rfl)) ?_; (with_reducible refine (calendar_valid.calls a1 true _ A6.out).mono ?_); rintro e w' ⟨rfl, ⟨nd, rfl⟩⟩; refine ⟨_, rfl, ?_⟩))
    go_ret2
    exact ⟨by first | rfl | (simp; done) | (simp [*]; done), by repeat (first | exact Drawn0.refl _ | apply Drawn0.step)⟩
   ·
    rw [if_neg c8] at H
    have c8b0 : decide (a2 < 0) = false := decide_eq_false c8
    clear c8
    by_cases c9 : a2 > 1000
    ·
     rw [if_pos c9] at H
     have c9b0 : decide (1000 < a2) = true := decide_eq_true c9
     clear c9
     simp only [Option.some.injEq, Prod.mk.injEq] at H
     obtain ⟨rfl, rfl⟩ := H
     go_enter Tryd.func26, Tryd.ntmps26
     go_wp2_with (first | ((with_reducible refine gate_callee (f := 27) rfl ?_); refine goesL_ (some 10) rfl rfl Tryd.func27 (by kernel_rfl) rfl #[.slice A0 l0.length c0] rfl (by (try simp only [List.map_toArray, List.map_cons, List.map_nil]); first | done | rfl | (simp only [List.length_drop, List.length_take]; rfl)) ?_; (with_reducible refine (calendar_Valid.calls k _ _ l0 t398 _ ?side1 ?side2 A4.out).mono ?_); (case side1 => repeat (first | exact HR0.out | (with_reducible refine Kd.C_alloc ?_ _) | (with_reducible refine Kd.C_drewN ?_ _) | (with_reducible refine Kd.C_drew ?_))); (case side2 => exact HC0.out); rintro e w' ⟨rfl, ⟨nd, rfl⟩⟩; refine ⟨_, rfl, ?_⟩) | ((with_reducible refine gate_callee (f := 33) rfl ?_); refine goesL_ (some 15) rfl rfl Tryd.func33 (by kernel_rfl) rfl #[.int .i64 a1] rfl (by (try simp only [List.map_toArray, List.map_cons, List.map_nil]); first | done | rfl | (simp only [List.length_drop, List.length_take]; rfl)) ?_; (with_reducible refine (calendar_valid.calls a1 true _ A6.out).mono ?_); rintro e w' ⟨rfl, ⟨nd, rfl⟩⟩; refine ⟨_, rfl, ?_⟩))
     go_ret2
     exact ⟨by first | rfl | (simp; done) | (simp [*]; done), by repeat (first | exact Drawn0.refl _ | apply Drawn0.step)⟩
    ·
     rw [if_neg c9] at H
     have c9b0 : decide (1000 < a2) = false := decide_eq_false c9
     clear c9
     replace H := Option.bind_eq_some_iff.mp H
     obtain ⟨⟨t400, t401⟩, A100, H⟩ := H
     replace H : (some (t400, t401)) = some (r1, r2) := H
     have A10 := Aside0.mk A100
     clear A100
     simp only [Option.some.injEq, Prod.mk.injEq] at H
     obtain ⟨rfl, rfl⟩ := H
     go_enter Tryd.func26, Tryd.ntmps26
     go_wp2_with (first | ((with_reducible refine gate_callee (f := 27) rfl ?_); refine goesL_ (some 10) rfl rfl Tryd.func27 (by kernel_rfl) rfl #[.slice A0 l0.length c0] rfl (by (try simp only [List.map_toArray, List.map_cons, List.map_nil]); first | done | rfl | (simp only [List.length_drop, List.length_take]; rfl)) ?_; (with_reducible refine (calendar_Valid.calls k _ _ l0 t398 _ ?side1 ?side2 A4.out).mono ?_); (case side1 => repeat (first | exact HR0.out | (with_reducible refine Kd.C_alloc ?_ _) | (with_reducible refine Kd.C_drewN ?_ _) | (with_reducible refine Kd.C_drew ?_))); (case side2 => exact HC0.out); rintro e w' ⟨rfl, ⟨nd, rfl⟩⟩; refine ⟨_, rfl, ?_⟩) | ((with_reducible refine gate_callee (f := 33) rfl ?_); refine goesL_ (some 15) rfl rfl Tryd.func33 (by kernel_rfl) rfl #[.int .i64 a1] rfl (by (try simp only [List.map_toArray, List.map_cons, List.map_nil]); first | done | rfl | (simp only [List.length_drop, List.length_take]; rfl)) ?_; (with_reducible refine (calendar_valid.calls a1 true _ A6.out).mono ?_); rintro e w' ⟨rfl, ⟨nd, rfl⟩⟩; refine ⟨_, rfl, ?_⟩) | ((with_reducible refine gate_callee (f := 40) rfl ?_); refine goesL_ (some 28) rfl rfl Tryd.func40 (by kernel_rfl) rfl #[.slice A0 l0.length c0, .int .i64 a1, .int .i64 a2] rfl (by (try simp only [List.map_toArray, List.map_cons, List.map_nil]); first | done | rfl | (simp only [List.length_drop, List.length_take]; rfl)) ?_; (with_reducible refine (calendar_add.calls k _ _ l0 a1 a2 t400 t401 _ ?side1 ?side2 A10.out).mono ?_); (case side1 => repeat (first | exact HR0.out | (with_reducible refine Kd.C_alloc ?_ _) | (with_reducible refine Kd.C_drewN ?_ _) | (with_reducible refine Kd.C_drew ?_))); (case side2 => exact HC0.out); rintro e w' ⟨rfl, ⟨nd, rfl⟩⟩; refine ⟨_, rfl, ?_⟩))
     go_ret2
     exact ⟨by first | rfl | (simp; done) | (simp [*]; done), by repeat (first | exact Drawn0.refl _ | apply Drawn0.step)⟩
  ·
   replace c7 := Bool.eq_false_iff.mpr c7
   subst c7
   have H1 : (some (0, 2)) = some (r1, r2) := by rw [if_neg (show ¬ (false = true) by decide)] at H; exact H
   clear H
   have H := H1
   clear H1
   simp only [Option.some.injEq, Prod.mk.injEq] at H
   obtain ⟨rfl, rfl⟩ := H
   go_enter Tryd.func26, Tryd.ntmps26
   go_wp2_with (first | ((with_reducible refine gate_callee (f := 27) rfl ?_); refine goesL_ (some 10) rfl rfl Tryd.func27 (by kernel_rfl) rfl #[.slice A0 l0.length c0] rfl (by (try simp only [List.map_toArray, List.map_cons, List.map_nil]); first | done | rfl | (simp only [List.length_drop, List.length_take]; rfl)) ?_; (with_reducible refine (calendar_Valid.calls k _ _ l0 t398 _ ?side1 ?side2 A4.out).mono ?_); (case side1 => repeat (first | exact HR0.out | (with_reducible refine Kd.C_alloc ?_ _) | (with_reducible refine Kd.C_drewN ?_ _) | (with_reducible refine Kd.C_drew ?_))); (case side2 => exact HC0.out); rintro e w' ⟨rfl, ⟨nd, rfl⟩⟩; refine ⟨_, rfl, ?_⟩) | ((with_reducible refine gate_callee (f := 33) rfl ?_); refine goesL_ (some 15) rfl rfl Tryd.func33 (by kernel_rfl) rfl #[.int .i64 a1] rfl (by (try simp only [List.map_toArray, List.map_cons, List.map_nil]); first | done | rfl | (simp only [List.length_drop, List.length_take]; rfl)) ?_; (with_reducible refine (calendar_valid.calls a1 false _ A6.out).mono ?_); rintro e w' ⟨rfl, ⟨nd, rfl⟩⟩; refine ⟨_, rfl, ?_⟩))
   go_ret2
   exact ⟨by first | rfl | (simp; done) | (simp [*]; done), by repeat (first | exact Drawn0.refl _ | apply Drawn0.step)⟩
 ·
  rw [if_neg c5] at H
  have c5b0 : (t398 == 0) = false := beq_eq_false_iff_ne.mpr c5
  have c5b1 : (t398 != 0) = true := bne_iff_ne.mpr c5
  simp only [Option.some.injEq, Prod.mk.injEq] at H
  obtain ⟨rfl, rfl⟩ := H
  go_enter Tryd.func26, Tryd.ntmps26
  go_wp2_with (first | ((with_reducible refine gate_callee (f := 27) rfl ?_); refine goesL_ (some 10) rfl rfl Tryd.func27 (by kernel_rfl) rfl #[.slice A0 l0.length c0] rfl (by (try simp only [List.map_toArray, List.map_cons, List.map_nil]); first | done | rfl | (simp only [List.length_drop, List.length_take]; rfl)) ?_; (with_reducible refine (calendar_Valid.calls k _ _ l0 t398 _ ?side1 ?side2 A4.out).mono ?_); (case side1 => repeat (first | exact HR0.out | (with_reducible refine Kd.C_alloc ?_ _) | (with_reducible refine Kd.C_drewN ?_ _) | (with_reducible refine Kd.C_drew ?_))); (case side2 => exact HC0.out); rintro e w' ⟨rfl, ⟨nd, rfl⟩⟩; refine ⟨_, rfl, ?_⟩))
  go_ret2
  exact ⟨by first | rfl | (simp; done) | (simp [*]; done), by repeat (first | exact Drawn0.refl _ | apply Drawn0.step)⟩

end Go.Proofs.YtlmcejiebobfbaaDoor.G

namespace Go.Proofs.YtlmcejiebobfbaaDoor.G
open Go.RowKit Go.Proofs.YtlmcejiebobfbaaDoorW.PrintWords Go.Proofs.YtlmcejiebobfbaaDoorW.PrintLast Go.Proofs.YtlmcejiebobfbaaDoorW.PrintMore
attribute [local go_sem] max2_int min2_int max_two min_two max_three min_three max_four min_four   -- for this text's walks alone
set_option linter.unusedVariables false
set_option linter.unusedSimpArgs false

def calendar_NextWorking.f (k : Nat) (l0 : List Int) (a1 : Int) : Option (Int × Int) := (calendar_Valid.f k l0).bind fun t431 => (if t431 = 0 then ((calendar_valid.f a1).bind fun t432 => (if t432 = true then ((calendar_next.f k l0 a1).bind fun bt433 => (some (bt433.1, bt433.2))) else (some (0, 2)))) else (some (0, t431)))
set_option maxHeartbeats 8000000 in
set_option maxRecDepth 100000 in
theorem calendar_NextWorking.calls (k : Nat) (A0 : Option Addr) (c0 : Nat) (l0 : List Int) (a1 : Int) (r1 : Int) (r2 : Int) (w : World) (hr0 : Kd.C (Kd.int .i64) w A0 l0.length l0) (hc0 : l0.length ≤ c0) (h : calendar_NextWorking.f k l0 a1 = some (r1, r2)) :
  Calls Tryd.prog 30 #[.slice A0 l0.length c0, .int .i64 a1] w fun e w' => e = .returned (.tuple #[.int .i64 r1, .int .i64 r2]) ∧ Drawn0 w w' := by
 have HR0 := Aside0.mk hr0
 have HC0 := Aside0.mk hc0
 clear hr0 hc0
 have H : ((calendar_Valid.f k l0).bind fun t431 => (if t431 = 0 then ((calendar_valid.f a1).bind fun t432 => (if t432 = true then ((calendar_next.f k l0 a1).bind fun bt433 => (some (bt433.1, bt433.2))) else (some (0, 2)))) else (some (0, t431)))) = some (r1, r2) := h
 clear h
 replace H := Option.bind_eq_some_iff.mp H
 obtain ⟨t431, A30, H⟩ := H
 replace H : (if t431 = 0 then ((calendar_valid.f a1).bind fun t432 => (if t432 = true then ((calendar_next.f k l0 a1).bind fun bt433 => (some (bt433.1, bt433.2))) else (some (0, 2)))) else (some (0, t431))) = some (r1, r2) := H
 have A3 := Aside0.mk A30
 clear A30
 by_cases c4 : t431 = 0
 ·
  rw [if_pos c4] at H
  have c4b0 : (t431 == 0) = true := beq_iff_eq.mpr c4
  have c4b1 : (t431 != 0) = false := bne_eq_false_iff_eq.mpr c4
  clear c4
  replace H := Option.bind_eq_some_iff.mp H
  obtain ⟨t432, A50, H⟩ := H
  replace H : (if t432 = true then ((calendar_next.f k l0 a1).bind fun bt433 => (some (bt433.1, bt433.2))) else (some (0, 2))) = some (r1, r2) := H
  have A5 := Aside0.mk A50
  clear A50
  by_cases c6 : t432 = true
  ·
   subst c6
   have H1 : ((calendar_next.f k l0 a1).bind fun bt433 => (some (bt433.1, bt433.2))) = some (r1, r2) := by rw [if_pos rfl] at H; exact H
   clear H
   have H := H1
   clear H1
   replace H := Option.bind_eq_some_iff.mp H
   obtain ⟨⟨t433, t434⟩, A70, H⟩ := H
   replace H : (some (t433, t434)) = some (r1, r2) := H
   have A7 := Aside0.mk A70
   clear A70
   simp only [Option.some.injEq, Prod.mk.injEq] at H
   obtain ⟨rfl, rfl⟩ := H
   go_enter Tryd.func30, Tryd.ntmps30
   go_wp2_with (first | ((with_reducible refine gate_callee (f := 27) rfl ?_); refine goesL_ (some 8) rfl rfl Tryd.func27 (by kernel_rfl) rfl #[.slice A0 l0.length c0] rfl (by (try simp only [List.map_toArray, List.map_cons, List.map_nil]); first | done | rfl | (simp only [List.length_drop, List.length_take]; rfl)) ?_; (with_reducible refine (calendar_Valid.calls k _ _ l0 t431 _ ?side1 ?side2 A3.out).mono ?_); (case side1 => repeat (first | exact HR0.out | (with_reducible refine Kd.C_alloc ?_ _) | (with_reducible refine Kd.C_drewN ?_ _) | (with_reducible refine Kd.C_drew ?_))); (case side2 => exact HC0.out); rintro e w' ⟨rfl, ⟨nd, rfl⟩⟩; refine ⟨_, rfl, ?_⟩) | ((with_reducible refine gate_callee (f := 33) rfl ?_); refine goesL_ (some 13) rfl rfl Tryd.func33 (by kernel_rfl) rfl #[.int .i64 a1] rfl (by (try simp only [List.map_toArray, List.map_cons, List.map_nil]); first | done | rfl | (simp only [List.length_drop, List.length_take]; rfl)) ?_; (with_reducible refine (calendar_valid.calls a1 true _ A5.out).mono ?_); rintro e w' ⟨rfl, ⟨nd, rfl⟩⟩; refine ⟨_, rfl, ?_⟩) | ((with_reducible refine gate_callee (f := 41) rfl ?_); refine goesL_ (some 17) rfl rfl Tryd.func41 (by kernel_rfl) rfl #[.slice A0 l0.length c0, .int .i64 a1] rfl (by (try simp only [List.map_toArray, List.map_cons, List.map_nil]); first | done | rfl | (simp only [List.length_drop, List.length_take]; rfl)) ?_; (with_reducible refine (calendar_next.calls k _ _ l0 a1 t433 t434 _ ?side1 ?side2 A7.out).mono ?_); (case side1 => repeat (first | exact HR0.out | (with_reducible refine Kd.C_alloc ?_ _) | (with_reducible refine Kd.C_drewN ?_ _) | (with_reducible refine Kd.C_drew ?_))); (case side2 => exact HC0.out); rintro e w' ⟨rfl, ⟨nd, rfl⟩⟩; refine ⟨_, rfl, ?_⟩))
   go_ret2
   exact ⟨by first | rfl | (simp; done) | (simp [*]; done), by repeat (first | exact Drawn0.refl _ | apply Drawn0.step)⟩
  ·
   replace c6 := Bool.eq_false_iff.mpr c6
   subst c6
   have H1 : (some (0, 2)) = some (r1, r2) := by rw [if_neg (show ¬ (false = true) by decide)] at H; exact H
   clear H
   have H := H1
   clear H1
   simp only [Option.some.injEq, Prod.mk.injEq] at H
   obtain ⟨rfl, rfl⟩ := H
   go_enter Tryd.func30, Tryd.ntmps30
   go_wp2_with (first | ((with_reducible refine gate_callee (f := 27) rfl ?_); refine goesL_ (some 8) rfl rfl Tryd.func27 (by kernel_rfl) rfl #[.slice A0 l0.length c0] rfl (by (try simp only [List.map_toArray, List.map_cons, List.map_nil]); first | done | rfl | (simp only [List.length_drop, List.length_take]; rfl)) ?_; (with_reducible refine (calendar_Valid.calls k _ _ l0 t431 _ ?side1 ?side2 A3.out).mono ?_); (case side1 => repeat (first | exact HR0.out | (with_reducible refine Kd.C_alloc ?_ _) | (with_reducible refine Kd.C_drewN ?_ _) | (with_reducible refine Kd.C_drew ?_))); (case side2 => exact HC0.out); rintro e w' ⟨rfl, ⟨nd, rfl⟩⟩; refine ⟨_, rfl, ?_⟩) | ((with_reducible refine gate_callee (f := 33) rfl ?_); refine goesL_ (some 13) rfl rfl Tryd.func33 (by kernel_rfl) rfl #[.int .i64 a1] rfl (by (try simp only [List.map_toArray, List.map_cons, List.map_nil]); first | done | rfl | (simp only [List.length_drop, List.length_take]; rfl)) ?_; (with_reducible refine (calendar_valid.calls a1 false _ A5.out).mono ?_); rintro e w' ⟨rfl, ⟨nd, rfl⟩⟩; refine ⟨_, rfl, ?_⟩))
   go_ret2
   exact ⟨by first | rfl | (simp; done) | (simp [*]; done), by repeat (first | exact Drawn0.refl _ | apply Drawn0.step)⟩
 ·
  rw [if_neg c4] at H
  have c4b0 : (t431 == 0) = false := beq_eq_false_iff_ne.mpr c4
  have c4b1 : (t431 != 0) = true := bne_iff_ne.mpr c4
  simp only [Option.some.injEq, Prod.mk.injEq] at H
  obtain ⟨rfl, rfl⟩ := H
  go_enter Tryd.func30, Tryd.ntmps30
  go_wp2_with (first | ((with_reducible refine gate_callee (f := 27) rfl ?_); refine goesL_ (some 8) rfl rfl Tryd.func27 (by kernel_rfl) rfl #[.slice A0 l0.length c0] rfl (by (try simp only [List.map_toArray, List.map_cons, List.map_nil]); first | done | rfl | (simp only [List.length_drop, List.length_take]; rfl)) ?_; (with_reducible refine (calendar_Valid.calls k _ _ l0 t431 _ ?side1 ?side2 A3.out).mono ?_); (case side1 => repeat (first | exact HR0.out | (with_reducible refine Kd.C_alloc ?_ _) | (with_reducible refine Kd.C_drewN ?_ _) | (with_reducible refine Kd.C_drew ?_))); (case side2 => exact HC0.out); rintro e w' ⟨rfl, ⟨nd, rfl⟩⟩; refine ⟨_, rfl, ?_⟩))
  go_ret2
  exact ⟨by first | rfl | (simp; done) | (simp [*]; done), by repeat (first | exact Drawn0.refl _ | apply Drawn0.step)⟩

end Go.Proofs.YtlmcejiebobfbaaDoor.G

namespace Go.Proofs.YtlmcejiebobfbaaDoor.G
open Go.RowKit Go.Proofs.YtlmcejiebobfbaaDoorW.PrintWords Go.Proofs.YtlmcejiebobfbaaDoorW.PrintLast Go.Proofs.YtlmcejiebobfbaaDoorW.PrintMore
attribute [local go_sem] max2_int min2_int max_two min_two max_three min_three max_four min_four   -- for this text's walks alone
set_option linter.unusedVariables false
set_option linter.unusedSimpArgs false

mutual
def customslaw04_CalendarWorking.j0 : Nat → List Int → Int → Int → Bool → Option (Bool)
 | 0, _, _, _, _ => none
 | k + 1, x0, x1, x2, x48 => if x48 = true then (some false) else ((calendar_NextWorking.f k x0 x1).bind fun bt446 => ((customsref04_NextWorking.f k x0 x1).bind fun bt448 => ((calendar_AddWorking.f k x0 x1 x2).bind fun bt450 => ((customsref04_AddWorking.f k x0 x1 x2).bind fun bt452 => (if bt446.1 = bt448.1 then (if bt446.2 = bt448.2 then (if bt450.1 = bt452.1 then (if bt450.2 = bt452.2 then ((customslaw04_awake.f k).bind fun t454 => (some t454)) else (some false)) else (some false)) else (some false)) else (some false))))))
def customslaw04_CalendarWorking.j1 : Nat → List Int → Int → Int → Bool → Option (Bool)
 | 0, _, _, _, _ => none
 | k + 1, x0, x1, x2, x48 => if x48 = true then (some false) else ((calendar_NextWorking.f k x0 x1).bind fun bt460 => ((customsref04_NextWorking.f k x0 x1).bind fun bt462 => ((calendar_AddWorking.f k x0 x1 x2).bind fun bt464 => ((customsref04_AddWorking.f k x0 x1 x2).bind fun bt466 => (if bt460.1 = bt462.1 then (if bt460.2 = bt462.2 then (if bt464.1 = bt466.1 then (if bt464.2 = bt466.2 then ((customslaw04_awake.f k).bind fun t468 => (some t468)) else (some false)) else (some false)) else (some false)) else (some false))))))
def customslaw04_CalendarWorking.j2 : Nat → List Int → Int → Int → Bool → Option (Bool)
 | 0, _, _, _, _ => none
 | k + 1, x0, x1, x2, x48 => if x48 = true then (some false) else ((calendar_NextWorking.f k x0 x1).bind fun bt479 => ((customsref04_NextWorking.f k x0 x1).bind fun bt481 => ((calendar_AddWorking.f k x0 x1 x2).bind fun bt483 => ((customsref04_AddWorking.f k x0 x1 x2).bind fun bt485 => (if bt479.1 = bt481.1 then (if bt479.2 = bt481.2 then (if bt483.1 = bt485.1 then (if bt483.2 = bt485.2 then ((customslaw04_awake.f k).bind fun t487 => (some t487)) else (some false)) else (some false)) else (some false)) else (some false))))))
def customslaw04_CalendarWorking.j3 : Nat → List Int → Int → Int → Bool → Option (Bool)
 | 0, _, _, _, _ => none
 | k + 1, x0, x1, x2, x48 => if x48 = true then (some false) else ((calendar_NextWorking.f k x0 x1).bind fun bt493 => ((customsref04_NextWorking.f k x0 x1).bind fun bt495 => ((calendar_AddWorking.f k x0 x1 x2).bind fun bt497 => ((customsref04_AddWorking.f k x0 x1 x2).bind fun bt499 => (if bt493.1 = bt495.1 then (if bt493.2 = bt495.2 then (if bt497.1 = bt499.1 then (if bt497.2 = bt499.2 then ((customslaw04_awake.f k).bind fun t501 => (some t501)) else (some false)) else (some false)) else (some false)) else (some false))))))
end
def customslaw04_CalendarWorking.f (k : Nat) (l0 : List Int) (a1 : Int) (a2 : Int) (a3 : Bool) : Option (Bool) := if (l0.length : Int) > 300 then (if 300 ≤ (l0.length : Int) then (if a3 = true then ((calendar_Valid.f k (l0.take 300)).bind fun t441 => ((customsref04_Valid.f k (l0.take 300)).bind fun t442 => (if t441 = t442 then ((customsref04_Valid.f k (l0.take 300)).bind fun t443 => (if t443 = 0 then ((calendar_Working.f k (l0.take 300) a1).bind fun t444 => ((customsref04_Working.f k (l0.take 300) a1).bind fun t445 => (customslaw04_CalendarWorking.j0 k (l0.take 300) a1 a2 (t444 != t445)))) else (customslaw04_CalendarWorking.j0 k (l0.take 300) a1 a2 false))) else (customslaw04_CalendarWorking.j0 k (l0.take 300) a1 a2 true)))) else ((customsmade_Holidays.f k (l0.take 300)).bind fun t436 => ((customsmade_Day.f a1).bind fun t439 => ((customsmade_Within.f a2 60).bind fun t440 => ((calendar_Valid.f k t436).bind fun t455 => ((customsref04_Valid.f k t436).bind fun t456 => (if t455 = t456 then ((customsref04_Valid.f k t436).bind fun t457 => (if t457 = 0 then ((calendar_Working.f k t436 t439).bind fun t458 => ((customsref04_Working.f k t436 t439).bind fun t459 => (customslaw04_CalendarWorking.j1 k t436 t439 t440 (t458 != t459)))) else (customslaw04_CalendarWorking.j1 k t436 t439 t440 false))) else (customslaw04_CalendarWorking.j1 k t436 t439 t440 true)))))))) else (none)) else (if a3 = true then ((calendar_Valid.f k l0).bind fun t474 => ((customsref04_Valid.f k l0).bind fun t475 => (if t474 = t475 then ((customsref04_Valid.f k l0).bind fun t476 => (if t476 = 0 then ((calendar_Working.f k l0 a1).bind fun t477 => ((customsref04_Working.f k l0 a1).bind fun t478 => (customslaw04_CalendarWorking.j2 k l0 a1 a2 (t477 != t478)))) else (customslaw04_CalendarWorking.j2 k l0 a1 a2 false))) else (customslaw04_CalendarWorking.j2 k l0 a1 a2 true)))) else ((customsmade_Holidays.f k l0).bind fun t469 => ((customsmade_Day.f a1).bind fun t472 => ((customsmade_Within.f a2 60).bind fun t473 => ((calendar_Valid.f k t469).bind fun t488 => ((customsref04_Valid.f k t469).bind fun t489 => (if t488 = t489 then ((customsref04_Valid.f k t469).bind fun t490 => (if t490 = 0 then ((calendar_Working.f k t469 t472).bind fun t491 => ((customsref04_Working.f k t469 t472).bind fun t492 => (customslaw04_CalendarWorking.j3 k t469 t472 t473 (t491 != t492)))) else (customslaw04_CalendarWorking.j3 k t469 t472 t473 false))) else (customslaw04_CalendarWorking.j3 k t469 t472 t473 true))))))))
set_option maxHeartbeats 8000000 in
set_option maxRecDepth 100000 in
theorem customslaw04_CalendarWorking.calls (k : Nat) (A0 : Option Addr) (c0 : Nat) (l0 : List Int) (a1 : Int) (a2 : Int) (a3 : Bool) (r : Bool) (w : World) (hr0 : Kd.C (Kd.int .i64) w A0 l0.length l0) (hc0 : l0.length ≤ c0) (hG_lengths : GL_lengths w) (h : customslaw04_CalendarWorking.f k l0 a1 a2 a3 = some r) :
  Calls Tryd.prog 10 #[.slice A0 l0.length c0, .int .i64 a1, .int .i64 a2, .bool a3] w fun e w' => e = .returned (.bool r) ∧ Below w.heap.size w w' := by
 have HR0 := Aside0.mk hr0
 have HC0 := Aside0.mk hc0
 clear hr0 hc0
 have HG_lengths := Aside0.mk hG_lengths
 clear hG_lengths
 have HB := Aside0.mk (Below.refl w.heap.size w)
 have H : (if (l0.length : Int) > 300 then (if 300 ≤ (l0.length : Int) then (if a3 = true then ((calendar_Valid.f k (l0.take 300)).bind fun t441 => ((customsref04_Valid.f k (l0.take 300)).bind fun t442 => (if t441 = t442 then ((customsref04_Valid.f k (l0.take 300)).bind fun t443 => (if t443 = 0 then ((calendar_Working.f k (l0.take 300) a1).bind fun t444 => ((customsref04_Working.f k (l0.take 300) a1).bind fun t445 => (customslaw04_CalendarWorking.j0 k (l0.take 300) a1 a2 (t444 != t445)))) else (customslaw04_CalendarWorking.j0 k (l0.take 300) a1 a2 false))) else (customslaw04_CalendarWorking.j0 k (l0.take 300) a1 a2 true)))) else ((customsmade_Holidays.f k (l0.take 300)).bind fun t436 => ((customsmade_Day.f a1).bind fun t439 => ((customsmade_Within.f a2 60).bind fun t440 => ((calendar_Valid.f k t436).bind fun t455 => ((customsref04_Valid.f k t436).bind fun t456 => (if t455 = t456 then ((customsref04_Valid.f k t436).bind fun t457 => (if t457 = 0 then ((calendar_Working.f k t436 t439).bind fun t458 => ((customsref04_Working.f k t436 t439).bind fun t459 => (customslaw04_CalendarWorking.j1 k t436 t439 t440 (t458 != t459)))) else (customslaw04_CalendarWorking.j1 k t436 t439 t440 false))) else (customslaw04_CalendarWorking.j1 k t436 t439 t440 true)))))))) else (none)) else (if a3 = true then ((calendar_Valid.f k l0).bind fun t474 => ((customsref04_Valid.f k l0).bind fun t475 => (if t474 = t475 then ((customsref04_Valid.f k l0).bind fun t476 => (if t476 = 0 then ((calendar_Working.f k l0 a1).bind fun t477 => ((customsref04_Working.f k l0 a1).bind fun t478 => (customslaw04_CalendarWorking.j2 k l0 a1 a2 (t477 != t478)))) else (customslaw04_CalendarWorking.j2 k l0 a1 a2 false))) else (customslaw04_CalendarWorking.j2 k l0 a1 a2 true)))) else ((customsmade_Holidays.f k l0).bind fun t469 => ((customsmade_Day.f a1).bind fun t472 => ((customsmade_Within.f a2 60).bind fun t473 => ((calendar_Valid.f k t469).bind fun t488 => ((customsref04_Valid.f k t469).bind fun t489 => (if t488 = t489 then ((customsref04_Valid.f k t469).bind fun t490 => (if t490 = 0 then ((calendar_Working.f k t469 t472).bind fun t491 => ((customsref04_Working.f k t469 t472).bind fun t492 => (customslaw04_CalendarWorking.j3 k t469 t472 t473 (t491 != t492)))) else (customslaw04_CalendarWorking.j3 k t469 t472 t473 false))) else (customslaw04_CalendarWorking.j3 k t469 t472 t473 true))))))))) = some r := h
 clear h
 by_cases c5 : (l0.length : Int) > 300
 ·
  rw [if_pos c5] at H
  have c5b0 : decide (300 < (l0.length : Int)) = true := decide_eq_true c5
  have c5b1 : decide (300 < l0.length) = true := decide_eq_true (by omega)
  clear c5
  by_cases c6 : 300 ≤ (l0.length : Int)
  ·
   rw [if_pos c6] at H
   have c6b0 := eq_true c6
   have c6b1 : decide (300 ≤ (l0.length : Int)) = true := decide_eq_true c6
   clear c6
   by_cases c7 : a3 = true
   ·
    subst c7
    have H1 : ((calendar_Valid.f k (l0.take 300)).bind fun t441 => ((customsref04_Valid.f k (l0.take 300)).bind fun t442 => (if t441 = t442 then ((customsref04_Valid.f k (l0.take 300)).bind fun t443 => (if t443 = 0 then ((calendar_Working.f k (l0.take 300) a1).bind fun t444 => ((customsref04_Working.f k (l0.take 300) a1).bind fun t445 => (customslaw04_CalendarWorking.j0 k (l0.take 300) a1 a2 (t444 != t445)))) else (customslaw04_CalendarWorking.j0 k (l0.take 300) a1 a2 false))) else (customslaw04_CalendarWorking.j0 k (l0.take 300) a1 a2 true)))) = some r := by rw [if_pos rfl] at H; exact H
    clear H
    have H := H1
    clear H1
    have HC8 := Aside0.mk H
    clear H
    obtain ⟨i09, hi09, _, hsz9, _⟩ := info_parts info3
    obtain ⟨hcut9, hA9, hC9⟩ := print_take_of (P := Tryd.prog) (Value.int .i64) 0 38 3 .i64 Tryd.underlying38 hi09 hsz9 A0 c0 l0 300 (by omega) (of_decide_eq_true (by first | (with_reducible assumption) | assumption)) HC0.out
    have HR435 := Aside0.mk (Kd.C_of_reads (h1 := fun _ => rfl) (hA9 _ (Kd.reads_of_C HR0.out)))
    have HC435 := Aside0.mk hC9
    clear hA9 hC9 hi09 hsz9
    go_enter Tryd.func10, Tryd.ntmps10
    go_upto_region 5 with (fail)
    go_cut [48] (fun v48 wc => ∃ (kq : Nat) (x48_7 : Bool), v48 = .bool x48_7 ∧ Aside0 (customslaw04_CalendarWorking.j0 kq (l0.take 300) a1 a2 x48_7 = some r) ∧ Aside0 (kq ≤ k) ∧ Aside0 (Below w.heap.size w wc))
    case first =>
     have H := HC8.out
     clear HC8
     replace H := Option.bind_eq_some_iff.mp H
     obtain ⟨t441, A100, H⟩ := H
     replace H : ((customsref04_Valid.f k (l0.take 300)).bind fun t442 => (if t441 = t442 then ((customsref04_Valid.f k (l0.take 300)).bind fun t443 => (if t443 = 0 then ((calendar_Working.f k (l0.take 300) a1).bind fun t444 => ((customsref04_Working.f k (l0.take 300) a1).bind fun t445 => (customslaw04_CalendarWorking.j0 k (l0.take 300) a1 a2 (t444 != t445)))) else (customslaw04_CalendarWorking.j0 k (l0.take 300) a1 a2 false))) else (customslaw04_CalendarWorking.j0 k (l0.take 300) a1 a2 true))) = some r := H
     have A10 := Aside0.mk A100
     clear A100
     replace H := Option.bind_eq_some_iff.mp H
     obtain ⟨t442, A110, H⟩ := H
     replace H : (if t441 = t442 then ((customsref04_Valid.f k (l0.take 300)).bind fun t443 => (if t443 = 0 then ((calendar_Working.f k (l0.take 300) a1).bind fun t444 => ((customsref04_Working.f k (l0.take 300) a1).bind fun t445 => (customslaw04_CalendarWorking.j0 k (l0.take 300) a1 a2 (t444 != t445)))) else (customslaw04_CalendarWorking.j0 k (l0.take 300) a1 a2 false))) else (customslaw04_CalendarWorking.j0 k (l0.take 300) a1 a2 true)) = some r := H
     have A11 := Aside0.mk A110
     clear A110
     by_cases c12 : t441 = t442
     ·
      rw [if_pos c12] at H
      have c12b0 : (t441 == t442) = true := beq_iff_eq.mpr c12
      have c12b1 : (t441 != t442) = false := bne_eq_false_iff_eq.mpr c12
      clear c12
      (first | rw [c12b0] | (simp only [i64_w, i32_w]; rw [c12b0]) | skip)
      replace H := Option.bind_eq_some_iff.mp H
      obtain ⟨t443, A130, H⟩ := H
      replace H : (if t443 = 0 then ((calendar_Working.f k (l0.take 300) a1).bind fun t444 => ((customsref04_Working.f k (l0.take 300) a1).bind fun t445 => (customslaw04_CalendarWorking.j0 k (l0.take 300) a1 a2 (t444 != t445)))) else (customslaw04_CalendarWorking.j0 k (l0.take 300) a1 a2 false)) = some r := H
      have A13 := Aside0.mk A130
      clear A130
      by_cases c14 : t443 = 0
      ·
       rw [if_pos c14] at H
       have c14b0 : (t443 == 0) = true := beq_iff_eq.mpr c14
       have c14b1 : (t443 != 0) = false := bne_eq_false_iff_eq.mpr c14
       clear c14
       replace H := Option.bind_eq_some_iff.mp H
       obtain ⟨t444, A150, H⟩ := H
       replace H : ((customsref04_Working.f k (l0.take 300) a1).bind fun t445 => (customslaw04_CalendarWorking.j0 k (l0.take 300) a1 a2 (t444 != t445))) = some r := H
       have A15 := Aside0.mk A150
       clear A150
       replace H := Option.bind_eq_some_iff.mp H
       obtain ⟨t445, A160, H⟩ := H
       replace H : (customslaw04_CalendarWorking.j0 k (l0.take 300) a1 a2 (t444 != t445)) = some r := H
       have A16 := Aside0.mk A160
       clear A160
       have H' := Aside0.mk H
       clear H
       go_wp2_with (first | ((with_reducible refine gate_callee (f := 27) rfl ?_); refine goesL_ (some 31) rfl rfl Tryd.func27 (by kernel_rfl) rfl #[.slice A0 (l0.take 300).length c0] rfl (by (try simp only [List.map_toArray, List.map_cons, List.map_nil]); first | done | (rw [show (l0.take 300).length = 300 from (by rw [List.length_take]; have h_ : (300 : Int) ≤ (l0.length : Int) := of_decide_eq_true (by first | (with_reducible assumption) | assumption); omega)] <;> rfl) | rfl | (simp only [List.length_drop, List.length_take]; rfl)) ?_; (with_reducible refine (calendar_Valid.calls k _ _ (l0.take 300) t441 _ ?side1 ?side2 A10.out).mono ?_); (case side1 => repeat (first | exact (Kd.C_below HR435.out HB.out) | (with_reducible refine Kd.C_alloc ?_ _) | (with_reducible refine Kd.C_drewN ?_ _) | (with_reducible refine Kd.C_drew ?_))); (case side2 => exact HC435.out); rintro e w' ⟨rfl, ⟨nd, rfl⟩⟩; refine ⟨_, rfl, ?_⟩) | ((with_reducible refine gate_callee (f := 28) rfl ?_); refine goesL_ (some 33) rfl rfl Tryd.func28 (by kernel_rfl) rfl #[.slice A0 (l0.take 300).length c0] rfl (by (try simp only [List.map_toArray, List.map_cons, List.map_nil]); first | done | (rw [show (l0.take 300).length = 300 from (by rw [List.length_take]; have h_ : (300 : Int) ≤ (l0.length : Int) := of_decide_eq_true (by first | (with_reducible assumption) | assumption); omega)] <;> rfl) | rfl | (simp only [List.length_drop, List.length_take]; rfl)) ?_; (with_reducible refine (customsref04_Valid.calls k _ _ (l0.take 300) t442 _ ?side1 ?side2 A11.out).mono ?_); (case side1 => repeat (first | exact (Kd.C_below HR435.out (by repeat (first | (with_reducible first | exact HB.out | apply below_alloc | apply pw_below_drewN | apply below_drew1) | exact HB.out))) | (with_reducible refine Kd.C_alloc ?_ _) | (with_reducible refine Kd.C_drewN ?_ _) | (with_reducible refine Kd.C_drew ?_))); (case side2 => exact HC435.out); rintro e w' ⟨rfl, ⟨nd, rfl⟩⟩; refine ⟨_, rfl, ?_⟩) | (go_at_call 28; refine calls_of_args (args' := #[.slice A0 (l0.take 300).length c0]) (by first | rfl | (simp only [List.length_take, List.length_drop]; done) | (simp only [List.length_take, List.length_drop]; rfl) | (simp; done)) ?_; (with_reducible refine (customsref04_Valid.calls k _ _ (l0.take 300) t443 _ ?side1 ?side2 A13.out).mono ?_); (case side1 => repeat (first | exact (Kd.C_below HR435.out (by repeat (first | (with_reducible first | exact HB.out | apply below_alloc | apply pw_below_drewN | apply below_drew1) | exact HB.out))) | (with_reducible refine Kd.C_alloc ?_ _) | (with_reducible refine Kd.C_drewN ?_ _) | (with_reducible refine Kd.C_drew ?_))); (case side2 => exact HC435.out); rintro e w' ⟨rfl, ⟨nd, rfl⟩⟩) | (go_at_call 25; refine calls_of_args (args' := #[.slice A0 (l0.take 300).length c0, .int .i64 a1]) (by first | rfl | (simp only [List.length_take, List.length_drop]; done) | (simp only [List.length_take, List.length_drop]; rfl) | (simp; done)) ?_; (with_reducible refine (calendar_Working.calls k _ _ (l0.take 300) a1 t444 _ ?side1 ?side2 A15.out).mono ?_); (case side1 => repeat (first | exact (Kd.C_below HR435.out (by repeat (first | (with_reducible first | exact HB.out | apply below_alloc | apply pw_below_drewN | apply below_drew1) | exact HB.out))) | (with_reducible refine Kd.C_alloc ?_ _) | (with_reducible refine Kd.C_drewN ?_ _) | (with_reducible refine Kd.C_drew ?_))); (case side2 => exact HC435.out); rintro e w' ⟨rfl, ⟨nd, rfl⟩⟩) | (go_at_call 29; refine calls_of_args (args' := #[.slice A0 (l0.take 300).length c0, .int .i64 a1]) (by first | rfl | (simp only [List.length_take, List.length_drop]; done) | (simp only [List.length_take, List.length_drop]; rfl) | (simp; done)) ?_; (with_reducible refine (customsref04_Working.calls k _ _ (l0.take 300) a1 t445 _ ?side1 ?side2 A16.out).mono ?_); (case side1 => repeat (first | exact (Kd.C_below HR435.out (by repeat (first | (with_reducible first | exact HB.out | apply below_alloc | apply pw_below_drewN | apply below_drew1) | exact HB.out))) | (with_reducible refine Kd.C_alloc ?_ _) | (with_reducible refine Kd.C_drewN ?_ _) | (with_reducible refine Kd.C_drew ?_))); (case side2 => exact HC435.out); rintro e w' ⟨rfl, ⟨nd, rfl⟩⟩))
       go_meet
       case rel => exact ⟨_, ((t444 != t445)), (by first | rfl | (simp; done) | (simp [*]; done)), H', ⟨by first | omega | exact Nat.le_refl _⟩, ⟨by repeat (first | (with_reducible first | exact HB.out | apply below_alloc | apply pw_below_drewN | apply below_drew1) | exact HB.out)⟩⟩
      ·
       rw [if_neg c14] at H
       have c14b0 : (t443 == 0) = false := beq_eq_false_iff_ne.mpr c14
       have c14b1 : (t443 != 0) = true := bne_iff_ne.mpr c14
       have H' := Aside0.mk H
       clear H
       go_wp2_with (first | ((with_reducible refine gate_callee (f := 27) rfl ?_); refine goesL_ (some 31) rfl rfl Tryd.func27 (by kernel_rfl) rfl #[.slice A0 (l0.take 300).length c0] rfl (by (try simp only [List.map_toArray, List.map_cons, List.map_nil]); first | done | (rw [show (l0.take 300).length = 300 from (by rw [List.length_take]; have h_ : (300 : Int) ≤ (l0.length : Int) := of_decide_eq_true (by first | (with_reducible assumption) | assumption); omega)] <;> rfl) | rfl | (simp only [List.length_drop, List.length_take]; rfl)) ?_; (with_reducible refine (calendar_Valid.calls k _ _ (l0.take 300) t441 _ ?side1 ?side2 A10.out).mono ?_); (case side1 => repeat (first | exact (Kd.C_below HR435.out HB.out) | (with_reducible refine Kd.C_alloc ?_ _) | (with_reducible refine Kd.C_drewN ?_ _) | (with_reducible refine Kd.C_drew ?_))); (case side2 => exact HC435.out); rintro e w' ⟨rfl, ⟨nd, rfl⟩⟩; refine ⟨_, rfl, ?_⟩) | ((with_reducible refine gate_callee (f := 28) rfl ?_); refine goesL_ (some 33) rfl rfl Tryd.func28 (by kernel_rfl) rfl #[.slice A0 (l0.take 300).length c0] rfl (by (try simp only [List.map_toArray, List.map_cons, List.map_nil]); first | done | (rw [show (l0.take 300).length = 300 from (by rw [List.length_take]; have h_ : (300 : Int) ≤ (l0.length : Int) := of_decide_eq_true (by first | (with_reducible assumption) | assumption); omega)] <;> rfl) | rfl | (simp only [List.length_drop, List.length_take]; rfl)) ?_; (with_reducible refine (customsref04_Valid.calls k _ _ (l0.take 300) t442 _ ?side1 ?side2 A11.out).mono ?_); (case side1 => repeat (first | exact (Kd.C_below HR435.out (by repeat (first | (with_reducible first | exact HB.out | apply below_alloc | apply pw_below_drewN | apply below_drew1) | exact HB.out))) | (with_reducible refine Kd.C_alloc ?_ _) | (with_reducible refine Kd.C_drewN ?_ _) | (with_reducible refine Kd.C_drew ?_))); (case side2 => exact HC435.out); rintro e w' ⟨rfl, ⟨nd, rfl⟩⟩; refine ⟨_, rfl, ?_⟩) | (go_at_call 28; refine calls_of_args (args' := #[.slice A0 (l0.take 300).length c0]) (by first | rfl | (simp only [List.length_take, List.length_drop]; done) | (simp only [List.length_take, List.length_drop]; rfl) | (simp; done)) ?_; (with_reducible refine (customsref04_Valid.calls k _ _ (l0.take 300) t443 _ ?side1 ?side2 A13.out).mono ?_); (case side1 => repeat (first | exact (Kd.C_below HR435.out (by repeat (first | (with_reducible first | exact HB.out | apply below_alloc | apply pw_below_drewN | apply below_drew1) | exact HB.out))) | (with_reducible refine Kd.C_alloc ?_ _) | (with_reducible refine Kd.C_drewN ?_ _) | (with_reducible refine Kd.C_drew ?_))); (case side2 => exact HC435.out); rintro e w' ⟨rfl, ⟨nd, rfl⟩⟩))
       go_meet
       case rel => exact ⟨_, (false), (by first | rfl | (simp; done) | (simp [*]; done)), H', ⟨by first | omega | exact Nat.le_refl _⟩, ⟨by repeat (first | (with_reducible first | exact HB.out | apply below_alloc | apply pw_below_drewN | apply below_drew1) | exact HB.out)⟩⟩
     ·
      rw [if_neg c12] at H
      have c12b0 : (t441 == t442) = false := beq_eq_false_iff_ne.mpr c12
      have c12b1 : (t441 != t442) = true := bne_iff_ne.mpr c12
      (first | rw [c12b0] | (simp only [i64_w, i32_w]; rw [c12b0]) | skip)
      have H' := Aside0.mk H
      clear H
      go_wp2_with (first | ((with_reducible refine gate_callee (f := 27) rfl ?_); refine goesL_ (some 31) rfl rfl Tryd.func27 (by kernel_rfl) rfl #[.slice A0 (l0.take 300).length c0] rfl (by (try simp only [List.map_toArray, List.map_cons, List.map_nil]); first | done | (rw [show (l0.take 300).length = 300 from (by rw [List.length_take]; have h_ : (300 : Int) ≤ (l0.length : Int) := of_decide_eq_true (by first | (with_reducible assumption) | assumption); omega)] <;> rfl) | rfl | (simp only [List.length_drop, List.length_take]; rfl)) ?_; (with_reducible refine (calendar_Valid.calls k _ _ (l0.take 300) t441 _ ?side1 ?side2 A10.out).mono ?_); (case side1 => repeat (first | exact (Kd.C_below HR435.out HB.out) | (with_reducible refine Kd.C_alloc ?_ _) | (with_reducible refine Kd.C_drewN ?_ _) | (with_reducible refine Kd.C_drew ?_))); (case side2 => exact HC435.out); rintro e w' ⟨rfl, ⟨nd, rfl⟩⟩; refine ⟨_, rfl, ?_⟩) | ((with_reducible refine gate_callee (f := 28) rfl ?_); refine goesL_ (some 33) rfl rfl Tryd.func28 (by kernel_rfl) rfl #[.slice A0 (l0.take 300).length c0] rfl (by (try simp only [List.map_toArray, List.map_cons, List.map_nil]); first | done | (rw [show (l0.take 300).length = 300 from (by rw [List.length_take]; have h_ : (300 : Int) ≤ (l0.length : Int) := of_decide_eq_true (by first | (with_reducible assumption) | assumption); omega)] <;> rfl) | rfl | (simp only [List.length_drop, List.length_take]; rfl)) ?_; (with_reducible refine (customsref04_Valid.calls k _ _ (l0.take 300) t442 _ ?side1 ?side2 A11.out).mono ?_); (case side1 => repeat (first | exact (Kd.C_below HR435.out (by repeat (first | (with_reducible first | exact HB.out | apply below_alloc | apply pw_below_drewN | apply below_drew1) | exact HB.out))) | (with_reducible refine Kd.C_alloc ?_ _) | (with_reducible refine Kd.C_drewN ?_ _) | (with_reducible refine Kd.C_drew ?_))); (case side2 => exact HC435.out); rintro e w' ⟨rfl, ⟨nd, rfl⟩⟩; refine ⟨_, rfl, ?_⟩))
      go_meet
      case rel => exact ⟨_, (true), (by first | rfl | (simp; done) | (simp [*]; done)), H', ⟨by first | omega | exact Nat.le_refl _⟩, ⟨by repeat (first | (with_reducible first | exact HB.out | apply below_alloc | apply pw_below_drewN | apply below_drew1) | exact HB.out)⟩⟩
    case rest =>
     clear HC8
     try clear c1
     try clear c2
     try clear p2
     try clear c5
     try clear c5b0
     try clear c5b1
     try clear c6
     try clear c6b0
     try clear c6b1
     try clear c7
     try clear c10
     try clear c12
     try clear c12b0
     try clear c12b1
     try clear c14
     try clear c14b0
     try clear c14b1
     obtain ⟨kq, x48_7, rfl, HA, HJ7, HB⟩ := hcut
     cases kq with
     | zero => exact absurd HA.out (by simp [customslaw04_CalendarWorking.j0])
     | succ kj7 =>
      have H := HA.out
      clear HA
      simp only [customslaw04_CalendarWorking.j0] at H
      by_cases c17 : x48_7 = true
      ·
       subst c17
       have H1 : (some false) = some r := by rw [if_pos rfl] at H; exact H
       clear H
       have H := H1
       clear H1
       obtain rfl := Option.some.inj H
       go_wp2
       go_ret
       exact ⟨by first | rfl | (simp [errW_none, errW_some] <;> rfl) | (simp [*, errW_none, errW_some] <;> rfl), by repeat (first | (with_reducible first | exact HB.out | apply below_alloc | apply pw_below_drewN | apply below_drew1) | exact HB.out)⟩
      ·
       replace c17 := Bool.eq_false_iff.mpr c17
       subst c17
       have H1 : ((calendar_NextWorking.f kj7 (l0.take 300) a1).bind fun bt446 => ((customsref04_NextWorking.f kj7 (l0.take 300) a1).bind fun bt448 => ((calendar_AddWorking.f kj7 (l0.take 300) a1 a2).bind fun bt450 => ((customsref04_AddWorking.f kj7 (l0.take 300) a1 a2).bind fun bt452 => (if bt446.1 = bt448.1 then (if bt446.2 = bt448.2 then (if bt450.1 = bt452.1 then (if bt450.2 = bt452.2 then ((customslaw04_awake.f kj7).bind fun t454 => (some t454)) else (some false)) else (some false)) else (some false)) else (some false)))))) = some r := by rw [if_neg (show ¬ (false = true) by decide)] at H; exact H
       clear H
       have H := H1
       clear H1
       replace H := Option.bind_eq_some_iff.mp H
       obtain ⟨⟨t446, t447⟩, A180, H⟩ := H
       replace H : ((customsref04_NextWorking.f kj7 (l0.take 300) a1).bind fun bt448 => ((calendar_AddWorking.f kj7 (l0.take 300) a1 a2).bind fun bt450 => ((customsref04_AddWorking.f kj7 (l0.take 300) a1 a2).bind fun bt452 => (if t446 = bt448.1 then (if t447 = bt448.2 then (if bt450.1 = bt452.1 then (if bt450.2 = bt452.2 then ((customslaw04_awake.f kj7).bind fun t454 => (some t454)) else (some false)) else (some false)) else (some false)) else (some false))))) = some r := H
       have A18 := Aside0.mk A180
       clear A180
       replace H := Option.bind_eq_some_iff.mp H
       obtain ⟨⟨t448, t449⟩, A190, H⟩ := H
       replace H : ((calendar_AddWorking.f kj7 (l0.take 300) a1 a2).bind fun bt450 => ((customsref04_AddWorking.f kj7 (l0.take 300) a1 a2).bind fun bt452 => (if t446 = t448 then (if t447 = t449 then (if bt450.1 = bt452.1 then (if bt450.2 = bt452.2 then ((customslaw04_awake.f kj7).bind fun t454 => (some t454)) else (some false)) else (some false)) else (some false)) else (some false)))) = some r := H
       have A19 := Aside0.mk A190
       clear A190
       replace H := Option.bind_eq_some_iff.mp H
       obtain ⟨⟨t450, t451⟩, A200, H⟩ := H
       replace H : ((customsref04_AddWorking.f kj7 (l0.take 300) a1 a2).bind fun bt452 => (if t446 = t448 then (if t447 = t449 then (if t450 = bt452.1 then (if t451 = bt452.2 then ((customslaw04_awake.f kj7).bind fun t454 => (some t454)) else (some false)) else (some false)) else (some false)) else (some false))) = some r := H
       have A20 := Aside0.mk A200
       clear A200
       replace H := Option.bind_eq_some_iff.mp H
       obtain ⟨⟨t452, t453⟩, A210, H⟩ := H
       replace H : (if t446 = t448 then (if t447 = t449 then (if t450 = t452 then (if t451 = t453 then ((customslaw04_awake.f kj7).bind fun t454 => (some t454)) else (some false)) else (some false)) else (some false)) else (some false)) = some r := H
       have A21 := Aside0.mk A210
       clear A210
       by_cases c22 : t446 = t448
       ·
        rw [if_pos c22] at H
        have c22b0 : (t446 == t448) = true := beq_iff_eq.mpr c22
        have c22b1 : (t446 != t448) = false := bne_eq_false_iff_eq.mpr c22
        clear c22
        by_cases c23 : t447 = t449
        ·
         rw [if_pos c23] at H
         have c23b0 : (t447 == t449) = true := beq_iff_eq.mpr c23
         have c23b1 : (t447 != t449) = false := bne_eq_false_iff_eq.mpr c23
         clear c23
         by_cases c24 : t450 = t452
         ·
          rw [if_pos c24] at H
          have c24b0 : (t450 == t452) = true := beq_iff_eq.mpr c24
          have c24b1 : (t450 != t452) = false := bne_eq_false_iff_eq.mpr c24
          clear c24
          by_cases c25 : t451 = t453
          ·
           rw [if_pos c25] at H
           have c25b0 : (t451 == t453) = true := beq_iff_eq.mpr c25
           have c25b1 : (t451 != t453) = false := bne_eq_false_iff_eq.mpr c25
           clear c25
           replace H := Option.bind_eq_some_iff.mp H
           obtain ⟨t454, A260, H⟩ := H
           replace H : (some t454) = some r := H
           have A26 := Aside0.mk A260
           clear A260
           obtain rfl := Option.some.inj H
           go_wp2_with (first | ((with_reducible refine gate_callee (f := 30) rfl ?_); refine goesL_ (some 52) rfl rfl Tryd.func30 (by kernel_rfl) rfl #[.slice A0 (l0.take 300).length c0, .int .i64 a1] rfl (by (try simp only [List.map_toArray, List.map_cons, List.map_nil]); first | done | (rw [show (l0.take 300).length = 300 from (by rw [List.length_take]; have h_ : (300 : Int) ≤ (l0.length : Int) := of_decide_eq_true (by first | (with_reducible assumption) | assumption); omega)] <;> rfl) | rfl | (simp only [List.length_drop, List.length_take]; rfl)) ?_; (with_reducible refine (calendar_NextWorking.calls kj7 _ _ (l0.take 300) a1 t446 t447 _ ?side1 ?side2 A18.out).mono ?_); (case side1 => repeat (first | exact (Kd.C_below HR435.out HB.out) | (with_reducible refine Kd.C_alloc ?_ _) | (with_reducible refine Kd.C_drewN ?_ _) | (with_reducible refine Kd.C_drew ?_))); (case side2 => exact HC435.out); rintro e w' ⟨rfl, ⟨nd, rfl⟩⟩; refine ⟨_, rfl, ?_⟩) | ((with_reducible refine gate_callee (f := 31) rfl ?_); refine goesL_ (some 58) rfl rfl Tryd.func31 (by kernel_rfl) rfl #[.slice A0 (l0.take 300).length c0, .int .i64 a1] rfl (by (try simp only [List.map_toArray, List.map_cons, List.map_nil]); first | done | (rw [show (l0.take 300).length = 300 from (by rw [List.length_take]; have h_ : (300 : Int) ≤ (l0.length : Int) := of_decide_eq_true (by first | (with_reducible assumption) | assumption); omega)] <;> rfl) | rfl | (simp only [List.length_drop, List.length_take]; rfl)) ?_; (with_reducible refine (customsref04_NextWorking.calls kj7 _ _ (l0.take 300) a1 t448 t449 _ ?side1 ?side2 A19.out).mono ?_); (case side1 => repeat (first | exact (Kd.C_below HR435.out (by repeat (first | (with_reducible first | exact HB.out | apply below_alloc | apply pw_below_drewN | apply below_drew1) | exact HB.out))) | (with_reducible refine Kd.C_alloc ?_ _) | (with_reducible refine Kd.C_drewN ?_ _) | (with_reducible refine Kd.C_drew ?_))); (case side2 => exact HC435.out); rintro e w' ⟨rfl, ⟨nd, rfl⟩⟩; refine ⟨_, rfl, ?_⟩) | ((with_reducible refine gate_callee (f := 26) rfl ?_); refine goesL_ (some 65) rfl rfl Tryd.func26 (by kernel_rfl) rfl #[.slice A0 (l0.take 300).length c0, .int .i64 a1, .int .i64 a2] rfl (by (try simp only [List.map_toArray, List.map_cons, List.map_nil]); first | done | (rw [show (l0.take 300).length = 300 from (by rw [List.length_take]; have h_ : (300 : Int) ≤ (l0.length : Int) := of_decide_eq_true (by first | (with_reducible assumption) | assumption); omega)] <;> rfl) | rfl | (simp only [List.length_drop, List.length_take]; rfl)) ?_; (with_reducible refine (calendar_AddWorking.calls kj7 _ _ (l0.take 300) a1 a2 t450 t451 _ ?side1 ?side2 A20.out).mono ?_); (case side1 => repeat (first | exact (Kd.C_below HR435.out (by repeat (first | (with_reducible first | exact HB.out | apply below_alloc | apply pw_below_drewN | apply below_drew1) | exact HB.out))) | (with_reducible refine Kd.C_alloc ?_ _) | (with_reducible refine Kd.C_drewN ?_ _) | (with_reducible refine Kd.C_drew ?_))); (case side2 => exact HC435.out); rintro e w' ⟨rfl, ⟨nd, rfl⟩⟩; refine ⟨_, rfl, ?_⟩) | ((with_reducible refine gate_callee (f := 32) rfl ?_); refine goesL_ (some 72) rfl rfl Tryd.func32 (by kernel_rfl) rfl #[.slice A0 (l0.take 300).length c0, .int .i64 a1, .int .i64 a2] rfl (by (try simp only [List.map_toArray, List.map_cons, List.map_nil]); first | done | (rw [show (l0.take 300).length = 300 from (by rw [List.length_take]; have h_ : (300 : Int) ≤ (l0.length : Int) := of_decide_eq_true (by first | (with_reducible assumption) | assumption); omega)] <;> rfl) | rfl | (simp only [List.length_drop, List.length_take]; rfl)) ?_; (with_reducible refine (customsref04_AddWorking.calls kj7 _ _ (l0.take 300) a1 a2 t452 t453 _ ?side1 ?side2 A21.out).mono ?_); (case side1 => repeat (first | exact (Kd.C_below HR435.out (by repeat (first | (with_reducible first | exact HB.out | apply below_alloc | apply pw_below_drewN | apply below_drew1) | exact HB.out))) | (with_reducible refine Kd.C_alloc ?_ _) | (with_reducible refine Kd.C_drewN ?_ _) | (with_reducible refine Kd.C_drew ?_))); (case side2 => exact HC435.out); rintro e w' ⟨rfl, ⟨nd, rfl⟩⟩; refine ⟨_, rfl, ?_⟩) | (go_at_call 17; (with_reducible refine (customslaw04_awake.calls kj7  t454 _ ?side1 A26.out).mono ?_); (case side1 => exact GL_lengths.of_below (by repeat (first | (with_reducible first | exact HB.out | apply below_alloc | apply pw_below_drewN | apply below_drew1) | exact HB.out)) HG_lengths.out); rintro e w27 ⟨rfl, hb⟩; have n0_ := Aside0.mk (below_step (by repeat (first | (with_reducible first | exact HB.out | apply below_alloc | apply pw_below_drewN | apply below_drew1) | exact HB.out)) hb); clear HB; have HB := n0_; clear n0_; (try clear hb); (try clear hb2); (try clear hk); (try clear hi)))
           go_ret
           exact ⟨by first | rfl | (simp [errW_none, errW_some] <;> rfl) | (simp [*, errW_none, errW_some] <;> rfl), by repeat (first | (with_reducible first | exact HB.out | apply below_alloc | apply pw_below_drewN | apply below_drew1) | exact HB.out)⟩
          ·
           rw [if_neg c25] at H
           have c25b0 : (t451 == t453) = false := beq_eq_false_iff_ne.mpr c25
           have c25b1 : (t451 != t453) = true := bne_iff_ne.mpr c25
           obtain rfl := Option.some.inj H
           go_wp2_with (first | ((with_reducible refine gate_callee (f := 30) rfl ?_); refine goesL_ (some 52) rfl rfl Tryd.func30 (by kernel_rfl) rfl #[.slice A0 (l0.take 300).length c0, .int .i64 a1] rfl (by (try simp only [List.map_toArray, List.map_cons, List.map_nil]); first | done | (rw [show (l0.take 300).length = 300 from (by rw [List.length_take]; have h_ : (300 : Int) ≤ (l0.length : Int) := of_decide_eq_true (by first | (with_reducible assumption) | assumption); omega)] <;> rfl) | rfl | (simp only [List.length_drop, List.length_take]; rfl)) ?_; (with_reducible refine (calendar_NextWorking.calls kj7 _ _ (l0.take 300) a1 t446 t447 _ ?side1 ?side2 A18.out).mono ?_); (case side1 => repeat (first | exact (Kd.C_below HR435.out HB.out) | (with_reducible refine Kd.C_alloc ?_ _) | (with_reducible refine Kd.C_drewN ?_ _) | (with_reducible refine Kd.C_drew ?_))); (case side2 => exact HC435.out); rintro e w' ⟨rfl, ⟨nd, rfl⟩⟩; refine ⟨_, rfl, ?_⟩) | ((with_reducible refine gate_callee (f := 31) rfl ?_); refine goesL_ (some 58) rfl rfl Tryd.func31 (by kernel_rfl) rfl #[.slice A0 (l0.take 300).length c0, .int .i64 a1] rfl (by (try simp only [List.map_toArray, List.map_cons, List.map_nil]); first | done | (rw [show (l0.take 300).length = 300 from (by rw [List.length_take]; have h_ : (300 : Int) ≤ (l0.length : Int) := of_decide_eq_true (by first | (with_reducible assumption) | assumption); omega)] <;> rfl) | rfl | (simp only [List.length_drop, List.length_take]; rfl)) ?_; (with_reducible refine (customsref04_NextWorking.calls kj7 _ _ (l0.take 300) a1 t448 t449 _ ?side1 ?side2 A19.out).mono ?_); (case side1 => repeat (first | exact (Kd.C_below HR435.out (by repeat (first | (with_reducible first | exact HB.out | apply below_alloc | apply pw_below_drewN | apply below_drew1) | exact HB.out))) | (with_reducible refine Kd.C_alloc ?_ _) | (with_reducible refine Kd.C_drewN ?_ _) | (with_reducible refine Kd.C_drew ?_))); (case side2 => exact HC435.out); rintro e w' ⟨rfl, ⟨nd, rfl⟩⟩; refine ⟨_, rfl, ?_⟩) | ((with_reducible refine gate_callee (f := 26) rfl ?_); refine goesL_ (some 65) rfl rfl Tryd.func26 (by kernel_rfl) rfl #[.slice A0 (l0.take 300).length c0, .int .i64 a1, .int .i64 a2] rfl (by (try simp only [List.map_toArray, List.map_cons, List.map_nil]); first | done | (rw [show (l0.take 300).length = 300 from (by rw [List.length_take]; have h_ : (300 : Int) ≤ (l0.length : Int) := of_decide_eq_true (by first | (with_reducible assumption) | assumption); omega)] <;> rfl) | rfl | (simp only [List.length_drop, List.length_take]; rfl)) ?_; (with_reducible refine (calendar_AddWorking.calls kj7 _ _ (l0.take 300) a1 a2 t450 t451 _ ?side1 ?side2 A20.out).mono ?_); (case side1 => repeat (first | exact (Kd.C_below HR435.out (by repeat (first | (with_reducible first | exact HB.out | apply below_alloc | apply pw_below_drewN | apply below_drew1) | exact HB.out))) | (with_reducible refine Kd.C_alloc ?_ _) | (with_reducible refine Kd.C_drewN ?_ _) | (with_reducible refine Kd.C_drew ?_))); (case side2 => exact HC435.out); rintro e w' ⟨rfl, ⟨nd, rfl⟩⟩; refine ⟨_, rfl, ?_⟩) | ((with_reducible refine gate_callee (f := 32) rfl ?_); refine goesL_ (some 72) rfl rfl Tryd.func32 (by kernel_rfl) rfl #[.slice A0 (l0.take 300).length c0, .int .i64 a1, .int .i64 a2] rfl (by (try simp only [List.map_toArray, List.map_cons, List.map_nil]); first | done | (rw [show (l0.take 300).length = 300 from (by rw [List.length_take]; have h_ : (300 : Int) ≤ (l0.length : Int) := of_decide_eq_true (by first | (with_reducible assumption) | assumption); omega)] <;> rfl) | rfl | (simp only [List.length_drop, List.length_take]; rfl)) ?_; (with_reducible refine (customsref04_AddWorking.calls kj7 _ _ (l0.take 300) a1 a2 t452 t453 _ ?side1 ?side2 A21.out).mono ?_); (case side1 => repeat (first | exact (Kd.C_below HR435.out (by repeat (first | (with_reducible first | exact HB.out | apply below_alloc | apply pw_below_drewN | apply below_drew1) | exact HB.out))) | (with_reducible refine Kd.C_alloc ?_ _) | (with_reducible refine Kd.C_drewN ?_ _) | (with_reducible refine Kd.C_drew ?_))); (case side2 => exact HC435.out); rintro e w' ⟨rfl, ⟨nd, rfl⟩⟩; refine ⟨_, rfl, ?_⟩))
           go_ret
           exact ⟨by first | rfl | (simp [errW_none, errW_some] <;> rfl) | (simp [*, errW_none, errW_some] <;> rfl), by repeat (first | (with_reducible first | exact HB.out | apply below_alloc | apply pw_below_drewN | apply below_drew1) | exact HB.out)⟩
         ·
          rw [if_neg c24] at H
          have c24b0 : (t450 == t452) = false := beq_eq_false_iff_ne.mpr c24
          have c24b1 : (t450 != t452) = true := bne_iff_ne.mpr c24
          obtain rfl := Option.some.inj H
          go_wp2_with (first | ((with_reducible refine gate_callee (f := 30) rfl ?_); refine goesL_ (some 52) rfl rfl Tryd.func30 (by kernel_rfl) rfl #[.slice A0 (l0.take 300).length c0, .int .i64 a1] rfl (by (try simp only [List.map_toArray, List.map_cons, List.map_nil]); first | done | (rw [show (l0.take 300).length = 300 from (by rw [List.length_take]; have h_ : (300 : Int) ≤ (l0.length : Int) := of_decide_eq_true (by first | (with_reducible assumption) | assumption); omega)] <;> rfl) | rfl | (simp only [List.length_drop, List.length_take]; rfl)) ?_; (with_reducible refine (calendar_NextWorking.calls kj7 _ _ (l0.take 300) a1 t446 t447 _ ?side1 ?side2 A18.out).mono ?_); (case side1 => repeat (first | exact (Kd.C_below HR435.out HB.out) | (with_reducible refine Kd.C_alloc ?_ _) | (with_reducible refine Kd.C_drewN ?_ _) | (with_reducible refine Kd.C_drew ?_))); (case side2 => exact HC435.out); rintro e w' ⟨rfl, ⟨nd, rfl⟩⟩; refine ⟨_, rfl, ?_⟩) | ((with_reducible refine gate_callee (f := 31) rfl ?_); refine goesL_ (some 58) rfl rfl Tryd.func31 (by kernel_rfl) rfl #[.slice A0 (l0.take 300).length c0, .int .i64 a1] rfl (by (try simp only [List.map_toArray, List.map_cons, List.map_nil]); first | done | (rw [show (l0.take 300).length = 300 from (by rw [List.length_take]; have h_ : (300 : Int) ≤ (l0.length : Int) := of_decide_eq_true (by first | (with_reducible assumption) | assumption); omega)] <;> rfl) | rfl | (simp only [List.length_drop, List.length_take]; rfl)) ?_; (with_reducible refine (customsref04_NextWorking.calls kj7 _ _ (l0.take 300) a1 t448 t449 _ ?side1 ?side2 A19.out).mono ?_); (case side1 => repeat (first | exact (Kd.C_below HR435.out (by repeat (first | (with_reducible first | exact HB.out | apply below_alloc | apply pw_below_drewN | apply below_drew1) | exact HB.out))) | (with_reducible refine Kd.C_alloc ?_ _) | (with_reducible refine Kd.C_drewN ?_ _) | (with_reducible refine Kd.C_drew ?_))); (case side2 => exact HC435.out); rintro e w' ⟨rfl, ⟨nd, rfl⟩⟩; refine ⟨_, rfl, ?_⟩) | ((with_reducible refine gate_callee (f := 26) rfl ?_); refine goesL_ (some 65) rfl rfl Tryd.func26 (by kernel_rfl) rfl #[.slice A0 (l0.take 300).length c0, .int .i64 a1, .int .i64 a2] rfl (by (try simp only [List.map_toArray, List.map_cons, List.map_nil]); first | done | (rw [show (l0.take 300).length = 300 from (by rw [List.length_take]; have h_ : (300 : Int) ≤ (l0.length : Int) := of_decide_eq_true (by first | (with_reducible assumption) | assumption); omega)] <;> rfl) | rfl | (simp only [List.length_drop, List.length_take]; rfl)) ?_; (with_reducible refine (calendar_AddWorking.calls kj7 _ _ (l0.take 300) a1 a2 t450 t451 _ ?side1 ?side2 A20.out).mono ?_); (case side1 => repeat (first | exact (Kd.C_below HR435.out (by repeat (first | (with_reducible first | exact HB.out | apply below_alloc | apply pw_below_drewN | apply below_drew1) | exact HB.out))) | (with_reducible refine Kd.C_alloc ?_ _) | (with_reducible refine Kd.C_drewN ?_ _) | (with_reducible refine Kd.C_drew ?_))); (case side2 => exact HC435.out); rintro e w' ⟨rfl, ⟨nd, rfl⟩⟩; refine ⟨_, rfl, ?_⟩) | ((with_reducible refine gate_callee (f := 32) rfl ?_); refine goesL_ (some 72) rfl rfl Tryd.func32 (by kernel_rfl) rfl #[.slice A0 (l0.take 300).length c0, .int .i64 a1, .int .i64 a2] rfl (by (try simp only [List.map_toArray, List.map_cons, List.map_nil]); first | done | (rw [show (l0.take 300).length = 300 from (by rw [List.length_take]; have h_ : (300 : Int) ≤ (l0.length : Int) := of_decide_eq_true (by first | (with_reducible assumption) | assumption); omega)] <;> rfl) | rfl | (simp only [List.length_drop, List.length_take]; rfl)) ?_; (with_reducible refine (customsref04_AddWorking.calls kj7 _ _ (l0.take 300) a1 a2 t452 t453 _ ?side1 ?side2 A21.out).mono ?_); (case side1 => repeat (first | exact (Kd.C_below HR435.out (by repeat (first | (with_reducible first | exact HB.out | apply below_alloc | apply pw_below_drewN | apply below_drew1) | exact HB.out))) | (with_reducible refine Kd.C_alloc ?_ _) | (with_reducible refine Kd.C_drewN ?_ _) | (with_reducible refine Kd.C_drew ?_))); (case side2 => exact HC435.out); rintro e w' ⟨rfl, ⟨nd, rfl⟩⟩; refine ⟨_, rfl, ?_⟩))
          go_ret
          exact ⟨by first | rfl | (simp [errW_none, errW_some] <;> rfl) | (simp [*, errW_none, errW_some] <;> rfl), by repeat (first | (with_reducible first | exact HB.out | apply below_alloc | apply pw_below_drewN | apply below_drew1) | exact HB.out)⟩
        ·
         rw [if_neg c23] at H
         have c23b0 : (t447 == t449) = false := beq_eq_false_iff_ne.mpr c23
         have c23b1 : (t447 != t449) = true := bne_iff_ne.mpr c23
         obtain rfl := Option.some.inj H
         go_wp2_with (first | ((with_reducible refine gate_callee (f := 30) rfl ?_); refine goesL_ (some 52) rfl rfl Tryd.func30 (by kernel_rfl) rfl #[.slice A0 (l0.take 300).length c0, .int .i64 a1] rfl (by (try simp only [List.map_toArray, List.map_cons, List.map_nil]); first | done | (rw [show (l0.take 300).length = 300 from (by rw [List.length_take]; have h_ : (300 : Int) ≤ (l0.length : Int) := of_decide_eq_true (by first | (with_reducible assumption) | assumption); omega)] <;> rfl) | rfl | (simp only [List.length_drop, List.length_take]; rfl)) ?_; (with_reducible refine (calendar_NextWorking.calls kj7 _ _ (l0.take 300) a1 t446 t447 _ ?side1 ?side2 A18.out).mono ?_); (case side1 => repeat (first | exact (Kd.C_below HR435.out HB.out) | (with_reducible refine Kd.C_alloc ?_ _) | (with_reducible refine Kd.C_drewN ?_ _) | (with_reducible refine Kd.C_drew ?_))); (case side2 => exact HC435.out); rintro e w' ⟨rfl, ⟨nd, rfl⟩⟩; refine ⟨_, rfl, ?_⟩) | ((with_reducible refine gate_callee (f := 31) rfl ?_); refine goesL_ (some 58) rfl rfl Tryd.func31 (by kernel_rfl) rfl #[.slice A0 (l0.take 300).length c0, .int .i64 a1] rfl (by (try simp only [List.map_toArray, List.map_cons, List.map_nil]); first | done | (rw [show (l0.take 300).length = 300 from (by rw [List.length_take]; have h_ : (300 : Int) ≤ (l0.length : Int) := of_decide_eq_true (by first | (with_reducible assumption) | assumption); omega)] <;> rfl) | rfl | (simp only [List.length_drop, List.length_take]; rfl)) ?_; (with_reducible refine (customsref04_NextWorking.calls kj7 _ _ (l0.take 300) a1 t448 t449 _ ?side1 ?side2 A19.out).mono ?_); (case side1 => repeat (first | exact (Kd.C_below HR435.out (by repeat (first | (with_reducible first | exact HB.out | apply below_alloc | apply pw_below_drewN | apply below_drew1) | exact HB.out))) | (with_reducible refine Kd.C_alloc ?_ _) | (with_reducible refine Kd.C_drewN ?_ _) | (with_reducible refine Kd.C_drew ?_))); (case side2 => exact HC435.out); rintro e w' ⟨rfl, ⟨nd, rfl⟩⟩; refine ⟨_, rfl, ?_⟩) | ((with_reducible refine gate_callee (f := 26) rfl ?_); refine goesL_ (some 65) rfl rfl Tryd.func26 (by kernel_rfl) rfl #[.slice A0 (l0.take 300).length c0, .int .i64 a1, .int .i64 a2] rfl (by (try simp only [List.map_toArray, List.map_cons, List.map_nil]); first | done | (rw [show (l0.take 300).length = 300 from (by rw [List.length_take]; have h_ : (300 : Int) ≤ (l0.length : Int) := of_decide_eq_true (by first | (with_reducible assumption) | assumption); omega)] <;> rfl) | rfl | (simp only [List.length_drop, List.length_take]; rfl)) ?_; (with_reducible refine (calendar_AddWorking.calls kj7 _ _ (l0.take 300) a1 a2 t450 t451 _ ?side1 ?side2 A20.out).mono ?_); (case side1 => repeat (first | exact (Kd.C_below HR435.out (by repeat (first | (with_reducible first | exact HB.out | apply below_alloc | apply pw_below_drewN | apply below_drew1) | exact HB.out))) | (with_reducible refine Kd.C_alloc ?_ _) | (with_reducible refine Kd.C_drewN ?_ _) | (with_reducible refine Kd.C_drew ?_))); (case side2 => exact HC435.out); rintro e w' ⟨rfl, ⟨nd, rfl⟩⟩; refine ⟨_, rfl, ?_⟩) | ((with_reducible refine gate_callee (f := 32) rfl ?_); refine goesL_ (some 72) rfl rfl Tryd.func32 (by kernel_rfl) rfl #[.slice A0 (l0.take 300).length c0, .int .i64 a1, .int .i64 a2] rfl (by (try simp only [List.map_toArray, List.map_cons, List.map_nil]); first | done | (rw [show (l0.take 300).length = 300 from (by rw [List.length_take]; have h_ : (300 : Int) ≤ (l0.length : Int) := of_decide_eq_true (by first | (with_reducible assumption) | assumption); omega)] <;> rfl) | rfl | (simp only [List.length_drop, List.length_take]; rfl)) ?_; (with_reducible refine (customsref04_AddWorking.calls kj7 _ _ (l0.take 300) a1 a2 t452 t453 _ ?side1 ?side2 A21.out).mono ?_); (case side1 => repeat (first | exact (Kd.C_below HR435.out (by repeat (first | (with_reducible first | exact HB.out | apply below_alloc | apply pw_below_drewN | apply below_drew1) | exact HB.out))) | (with_reducible refine Kd.C_alloc ?_ _) | (with_reducible refine Kd.C_drewN ?_ _) | (with_reducible refine Kd.C_drew ?_))); (case side2 => exact HC435.out); rintro e w' ⟨rfl, ⟨nd, rfl⟩⟩; refine ⟨_, rfl, ?_⟩))
         go_ret
         exact ⟨by first | rfl | (simp [errW_none, errW_some] <;> rfl) | (simp [*, errW_none, errW_some] <;> rfl), by repeat (first | (with_reducible first | exact HB.out | apply below_alloc | apply pw_below_drewN | apply below_drew1) | exact HB.out)⟩
       ·
        rw [if_neg c22] at H
        have c22b0 : (t446 == t448) = false := beq_eq_false_iff_ne.mpr c22
        have c22b1 : (t446 != t448) = true := bne_iff_ne.mpr c22
        obtain rfl := Option.some.inj H
        go_wp2_with (first | ((with_reducible refine gate_callee (f := 30) rfl ?_); refine goesL_ (some 52) rfl rfl Tryd.func30 (by kernel_rfl) rfl #[.slice A0 (l0.take 300).length c0, .int .i64 a1] rfl (by (try simp only [List.map_toArray, List.map_cons, List.map_nil]); first | done | (rw [show (l0.take 300).length = 300 from (by rw [List.length_take]; have h_ : (300 : Int) ≤ (l0.length : Int) := of_decide_eq_true (by first | (with_reducible assumption) | assumption); omega)] <;> rfl) | rfl | (simp only [List.length_drop, List.length_take]; rfl)) ?_; (with_reducible refine (calendar_NextWorking.calls kj7 _ _ (l0.take 300) a1 t446 t447 _ ?side1 ?side2 A18.out).mono ?_); (case side1 => repeat (first | exact (Kd.C_below HR435.out HB.out) | (with_reducible refine Kd.C_alloc ?_ _) | (with_reducible refine Kd.C_drewN ?_ _) | (with_reducible refine Kd.C_drew ?_))); (case side2 => exact HC435.out); rintro e w' ⟨rfl, ⟨nd, rfl⟩⟩; refine ⟨_, rfl, ?_⟩) | ((with_reducible refine gate_callee (f := 31) rfl ?_); refine goesL_ (some 58) rfl rfl Tryd.func31 (by kernel_rfl) rfl #[.slice A0 (l0.take 300).length c0, .int .i64 a1] rfl (by (try simp only [List.map_toArray, List.map_cons, List.map_nil]); first | done | (rw [show (l0.take 300).length = 300 from (by rw [List.length_take]; have h_ : (300 : Int) ≤ (l0.length : Int) := of_decide_eq_true (by first | (with_reducible assumption) | assumption); omega)] <;> rfl) | rfl | (simp only [List.length_drop, List.length_take]; rfl)) ?_; (with_reducible refine (customsref04_NextWorking.calls kj7 _ _ (l0.take 300) a1 t448 t449 _ ?side1 ?side2 A19.out).mono ?_); (case side1 => repeat (first | exact (Kd.C_below HR435.out (by repeat (first | (with_reducible first | exact HB.out | apply below_alloc | apply pw_below_drewN | apply below_drew1) | exact HB.out))) | (with_reducible refine Kd.C_alloc ?_ _) | (with_reducible refine Kd.C_drewN ?_ _) | (with_reducible refine Kd.C_drew ?_))); (case side2 => exact HC435.out); rintro e w' ⟨rfl, ⟨nd, rfl⟩⟩; refine ⟨_, rfl, ?_⟩) | ((with_reducible refine gate_callee (f := 26) rfl ?_); refine goesL_ (some 65) rfl rfl Tryd.func26 (by kernel_rfl) rfl #[.slice A0 (l0.take 300).length c0, .int .i64 a1, .int .i64 a2] rfl (by (try simp only [List.map_toArray, List.map_cons, List.map_nil]); first | done | (rw [show (l0.take 300).length = 300 from (by rw [List.length_take]; have h_ : (300 : Int) ≤ (l0.length : Int) := of_decide_eq_true (by first | (with_reducible assumption) | assumption); omega)] <;> rfl) | rfl | (simp only [List.length_drop, List.length_take]; rfl)) ?_; (with_reducible refine (calendar_AddWorking.calls kj7 _ _ (l0.take 300) a1 a2 t450 t451 _ ?side1 ?side2 A20.out).mono ?_); (case side1 => repeat (first | exact (Kd.C_below HR435.out (by repeat (first | (with_reducible first | exact HB.out | apply below_alloc | apply pw_below_drewN | apply below_drew1) | exact HB.out))) | (with_reducible refine Kd.C_alloc ?_ _) | (with_reducible refine Kd.C_drewN ?_ _) | (with_reducible refine Kd.C_drew ?_))); (case side2 => exact HC435.out); rintro e w' ⟨rfl, ⟨nd, rfl⟩⟩; refine ⟨_, rfl, ?_⟩) | ((with_reducible refine gate_callee (f := 32) rfl ?_); refine goesL_ (some 72) rfl rfl Tryd.func32 (by kernel_rfl) rfl #[.slice A0 (l0.take 300).length c0, .int .i64 a1, .int .i64 a2] rfl (by (try simp only [List.map_toArray, List.map_cons, List.map_nil]); first | done | (rw [show (l0.take 300).length = 300 from (by rw [List.length_take]; have h_ : (300 : Int) ≤ (l0.length : Int) := of_decide_eq_true (by first | (with_reducible assumption) | assumption); omega)] <;> rfl) | rfl | (simp only [List.length_drop, List.length_take]; rfl)) ?_; (with_reducible refine (customsref04_AddWorking.calls kj7 _ _ (l0.take 300) a1 a2 t452 t453 _ ?side1 ?side2 A21.out).mono ?_); (case side1 => repeat (first | exact (Kd.C_below HR435.out (by repeat (first | (with_reducible first | exact HB.out | apply below_alloc | apply pw_below_drewN | apply below_drew1) | exact HB.out))) | (with_reducible refine Kd.C_alloc ?_ _) | (with_reducible refine Kd.C_drewN ?_ _) | (with_reducible refine Kd.C_drew ?_))); (case side2 => exact HC435.out); rintro e w' ⟨rfl, ⟨nd, rfl⟩⟩; refine ⟨_, rfl, ?_⟩))
        go_ret
        exact ⟨by first | rfl | (simp [errW_none, errW_some] <;> rfl) | (simp [*, errW_none, errW_some] <;> rfl), by repeat (first | (with_reducible first | exact HB.out | apply below_alloc | apply pw_below_drewN | apply below_drew1) | exact HB.out)⟩
   ·
    replace c7 := Bool.eq_false_iff.mpr c7
    subst c7
    have H1 : ((customsmade_Holidays.f k (l0.take 300)).bind fun t436 => ((customsmade_Day.f a1).bind fun t439 => ((customsmade_Within.f a2 60).bind fun t440 => ((calendar_Valid.f k t436).bind fun t455 => ((customsref04_Valid.f k t436).bind fun t456 => (if t455 = t456 then ((customsref04_Valid.f k t436).bind fun t457 => (if t457 = 0 then ((calendar_Working.f k t436 t439).bind fun t458 => ((customsref04_Working.f k t436 t439).bind fun t459 => (customslaw04_CalendarWorking.j1 k t436 t439 t440 (t458 != t459)))) else (customslaw04_CalendarWorking.j1 k t436 t439 t440 false))) else (customslaw04_CalendarWorking.j1 k t436 t439 t440 true))))))) = some r := by rw [if_neg (show ¬ (false = true) by decide)] at H; exact H
    clear H
    have H := H1
    clear H1
    replace H := Option.bind_eq_some_iff.mp H
    obtain ⟨t436, A280, H⟩ := H
    replace H : ((customsmade_Day.f a1).bind fun t439 => ((customsmade_Within.f a2 60).bind fun t440 => ((calendar_Valid.f k t436).bind fun t455 => ((customsref04_Valid.f k t436).bind fun t456 => (if t455 = t456 then ((customsref04_Valid.f k t436).bind fun t457 => (if t457 = 0 then ((calendar_Working.f k t436 t439).bind fun t458 => ((customsref04_Working.f k t436 t439).bind fun t459 => (customslaw04_CalendarWorking.j1 k t436 t439 t440 (t458 != t459)))) else (customslaw04_CalendarWorking.j1 k t436 t439 t440 false))) else (customslaw04_CalendarWorking.j1 k t436 t439 t440 true)))))) = some r := H
    have A28 := Aside0.mk A280
    clear A280
    replace H := Option.bind_eq_some_iff.mp H
    obtain ⟨t439, A290, H⟩ := H
    replace H : ((customsmade_Within.f a2 60).bind fun t440 => ((calendar_Valid.f k t436).bind fun t455 => ((customsref04_Valid.f k t436).bind fun t456 => (if t455 = t456 then ((customsref04_Valid.f k t436).bind fun t457 => (if t457 = 0 then ((calendar_Working.f k t436 t439).bind fun t458 => ((customsref04_Working.f k t436 t439).bind fun t459 => (customslaw04_CalendarWorking.j1 k t436 t439 t440 (t458 != t459)))) else (customslaw04_CalendarWorking.j1 k t436 t439 t440 false))) else (customslaw04_CalendarWorking.j1 k t436 t439 t440 true))))) = some r := H
    have A29 := Aside0.mk A290
    clear A290
    replace H := Option.bind_eq_some_iff.mp H
    obtain ⟨t440, A300, H⟩ := H
    replace H : ((calendar_Valid.f k t436).bind fun t455 => ((customsref04_Valid.f k t436).bind fun t456 => (if t455 = t456 then ((customsref04_Valid.f k t436).bind fun t457 => (if t457 = 0 then ((calendar_Working.f k t436 t439).bind fun t458 => ((customsref04_Working.f k t436 t439).bind fun t459 => (customslaw04_CalendarWorking.j1 k t436 t439 t440 (t458 != t459)))) else (customslaw04_CalendarWorking.j1 k t436 t439 t440 false))) else (customslaw04_CalendarWorking.j1 k t436 t439 t440 true)))) = some r := H
    have A30 := Aside0.mk A300
    clear A300
    have HC31 := Aside0.mk H
    clear H
    obtain ⟨i032, hi032, _, hsz32, _⟩ := info_parts info3
    obtain ⟨hcut32, hA32, hC32⟩ := print_take_of (P := Tryd.prog) (Value.int .i64) 0 38 3 .i64 Tryd.underlying38 hi032 hsz32 A0 c0 l0 300 (by omega) (of_decide_eq_true (by first | (with_reducible assumption) | assumption)) HC0.out
    have HR435 := Aside0.mk (Kd.C_of_reads (h1 := fun _ => rfl) (hA32 _ (Kd.reads_of_C HR0.out)))
    have HC435 := Aside0.mk hC32
    clear hA32 hC32 hi032 hsz32
    go_enter Tryd.func10, Tryd.ntmps10
    go_upto_region 5 with (first | ((with_reducible refine gate_callee (f := 22) rfl ?_); refine goesL_ (some 25) rfl rfl Tryd.func22 (by kernel_rfl) rfl #[.slice A0 (l0.take 300).length c0] rfl (by (try simp only [List.map_toArray, List.map_cons, List.map_nil]); first | done | (rw [show (l0.take 300).length = 300 from (by rw [List.length_take]; have h_ : (300 : Int) ≤ (l0.length : Int) := of_decide_eq_true (by first | (with_reducible assumption) | assumption); omega)] <;> rfl) | rfl | (simp only [List.length_drop, List.length_take]; rfl)) ?_; (with_reducible refine (customsmade_Holidays.calls k _ _ (l0.take 300) t436 _ ?side1 ?side2 A28.out).mono ?_); (case side1 => repeat (first | exact HR435.out | (with_reducible refine Kd.C_alloc ?_ _) | (with_reducible refine Kd.C_drewN ?_ _) | (with_reducible refine Kd.C_drew ?_))); (case side2 => exact HC435.out); rintro e w33 ⟨v437, rfl, ho0, hb⟩; refine ⟨_, rfl, ?_⟩; have n0_ := Aside0.mk (Kd.R_lower ho0 (below_size (by repeat (first | (with_reducible first | exact HB.out | apply below_alloc | apply pw_below_drewN | apply below_drew1) | exact HB.out)))); have n1_ := Aside0.mk (below_step (by repeat (first | (with_reducible first | exact HB.out | apply below_alloc | apply pw_below_drewN | apply below_drew1) | exact HB.out)) hb); clear HB; have HO438 := n0_; have HB := n1_; clear n0_ n1_; (try clear hb); (try clear hb2); (try clear hk); (try clear hi); (try clear ho0)) | ((with_reducible refine gate_callee (f := 11) rfl ?_); refine goesL_ (some 27) rfl rfl Tryd.func11 (by kernel_rfl) rfl #[.int .i64 a1] rfl (by (try simp only [List.map_toArray, List.map_cons, List.map_nil]); first | done | rfl | (simp only [List.length_drop, List.length_take]; rfl)) ?_; (with_reducible refine (customsmade_Day.calls a1 t439 _ A29.out).mono ?_); rintro e w' ⟨rfl, ⟨nd, rfl⟩⟩; refine ⟨_, rfl, ?_⟩) | ((with_reducible refine gate_callee (f := 18) rfl ?_); refine goesL_ (some 29) rfl rfl Tryd.func18 (by kernel_rfl) rfl #[.int .i64 a2, .int .i64 60] rfl (by (try simp only [List.map_toArray, List.map_cons, List.map_nil]); first | done | rfl | (simp only [List.length_drop, List.length_take]; rfl)) ?_; (with_reducible refine (customsmade_Within.calls a2 60 t440 _ A30.out).mono ?_); rintro e w' ⟨rfl, ⟨nd, rfl⟩⟩; refine ⟨_, rfl, ?_⟩))
    (try simp only [Act.put, List.setIfInBounds_toArray, List.set_cons_zero, List.set_cons_succ])
    go_cut [48] (fun v48 wc => ∃ (kq : Nat) (x48_30 : Bool), v48 = .bool x48_30 ∧ Aside0 (customslaw04_CalendarWorking.j1 kq t436 t439 t440 x48_30 = some r) ∧ Aside0 (kq ≤ k) ∧ Aside0 (Kd.R (Kd.int .i64) 3 wc w.heap.size (fun _ => True) v437 t436) ∧ Aside0 (Below w.heap.size w wc))
    case first =>
     have H := HC31.out
     clear HC31
     replace H := Option.bind_eq_some_iff.mp H
     obtain ⟨t455, A340, H⟩ := H
     replace H : ((customsref04_Valid.f k t436).bind fun t456 => (if t455 = t456 then ((customsref04_Valid.f k t436).bind fun t457 => (if t457 = 0 then ((calendar_Working.f k t436 t439).bind fun t458 => ((customsref04_Working.f k t436 t439).bind fun t459 => (customslaw04_CalendarWorking.j1 k t436 t439 t440 (t458 != t459)))) else (customslaw04_CalendarWorking.j1 k t436 t439 t440 false))) else (customslaw04_CalendarWorking.j1 k t436 t439 t440 true))) = some r := H
     have A34 := Aside0.mk A340
     clear A340
     replace H := Option.bind_eq_some_iff.mp H
     obtain ⟨t456, A350, H⟩ := H
     replace H : (if t455 = t456 then ((customsref04_Valid.f k t436).bind fun t457 => (if t457 = 0 then ((calendar_Working.f k t436 t439).bind fun t458 => ((customsref04_Working.f k t436 t439).bind fun t459 => (customslaw04_CalendarWorking.j1 k t436 t439 t440 (t458 != t459)))) else (customslaw04_CalendarWorking.j1 k t436 t439 t440 false))) else (customslaw04_CalendarWorking.j1 k t436 t439 t440 true)) = some r := H
     have A35 := Aside0.mk A350
     clear A350
     by_cases c36 : t455 = t456
     ·
      rw [if_pos c36] at H
      have c36b0 : (t455 == t456) = true := beq_iff_eq.mpr c36
      have c36b1 : (t455 != t456) = false := bne_eq_false_iff_eq.mpr c36
      clear c36
      (first | rw [c36b0] | (simp only [i64_w, i32_w]; rw [c36b0]) | skip)
      replace H := Option.bind_eq_some_iff.mp H
      obtain ⟨t457, A370, H⟩ := H
      replace H : (if t457 = 0 then ((calendar_Working.f k t436 t439).bind fun t458 => ((customsref04_Working.f k t436 t439).bind fun t459 => (customslaw04_CalendarWorking.j1 k t436 t439 t440 (t458 != t459)))) else (customslaw04_CalendarWorking.j1 k t436 t439 t440 false)) = some r := H
      have A37 := Aside0.mk A370
      clear A370
      by_cases c38 : t457 = 0
      ·
       rw [if_pos c38] at H
       have c38b0 : (t457 == 0) = true := beq_iff_eq.mpr c38
       have c38b1 : (t457 != 0) = false := bne_eq_false_iff_eq.mpr c38
       clear c38
       replace H := Option.bind_eq_some_iff.mp H
       obtain ⟨t458, A390, H⟩ := H
       replace H : ((customsref04_Working.f k t436 t439).bind fun t459 => (customslaw04_CalendarWorking.j1 k t436 t439 t440 (t458 != t459))) = some r := H
       have A39 := Aside0.mk A390
       clear A390
       replace H := Option.bind_eq_some_iff.mp H
       obtain ⟨t459, A400, H⟩ := H
       replace H : (customslaw04_CalendarWorking.j1 k t436 t439 t440 (t458 != t459)) = some r := H
       have A40 := Aside0.mk A400
       clear A400
       have H' := Aside0.mk H
       clear H
       obtain ⟨Ao41, co41, eo41⟩ := Kd.R_slice HO438.out
       subst eo41
       go_wp2_with (first | ((with_reducible refine gate_callee (f := 27) rfl ?_); refine goesL_ (some 31) rfl rfl Tryd.func27 (by kernel_rfl) rfl #[.slice Ao41 t436.length co41] rfl (by (try simp only [List.map_toArray, List.map_cons, List.map_nil]); first | done | rfl | (simp only [List.length_drop, List.length_take]; rfl)) ?_; (with_reducible refine (calendar_Valid.calls k _ _ t436 t455 _ ?side1 ?side2 A34.out).mono ?_); (case side1 => repeat (first | exact (Kd.R_reads' HO438.out).2.2 | (with_reducible refine Kd.C_alloc ?_ _) | (with_reducible refine Kd.C_drewN ?_ _) | (with_reducible refine Kd.C_drew ?_))); (case side2 => exact (Kd.R_reads' HO438.out).2.1); rintro e w' ⟨rfl, ⟨nd, rfl⟩⟩; refine ⟨_, rfl, ?_⟩) | ((with_reducible refine gate_callee (f := 28) rfl ?_); refine goesL_ (some 33) rfl rfl Tryd.func28 (by kernel_rfl) rfl #[.slice Ao41 t436.length co41] rfl (by (try simp only [List.map_toArray, List.map_cons, List.map_nil]); first | done | rfl | (simp only [List.length_drop, List.length_take]; rfl)) ?_; (with_reducible refine (customsref04_Valid.calls k _ _ t436 t456 _ ?side1 ?side2 A35.out).mono ?_); (case side1 => repeat (first | exact (Kd.R_reads' HO438.out).2.2 | (with_reducible refine Kd.C_alloc ?_ _) | (with_reducible refine Kd.C_drewN ?_ _) | (with_reducible refine Kd.C_drew ?_))); (case side2 => exact (Kd.R_reads' HO438.out).2.1); rintro e w' ⟨rfl, ⟨nd, rfl⟩⟩; refine ⟨_, rfl, ?_⟩) | (go_at_call 28; (with_reducible refine (customsref04_Valid.calls k _ _ t436 t457 _ ?side1 ?side2 A37.out).mono ?_); (case side1 => repeat (first | exact (Kd.R_reads' HO438.out).2.2 | (with_reducible refine Kd.C_alloc ?_ _) | (with_reducible refine Kd.C_drewN ?_ _) | (with_reducible refine Kd.C_drew ?_))); (case side2 => exact (Kd.R_reads' HO438.out).2.1); rintro e w' ⟨rfl, ⟨nd, rfl⟩⟩) | (go_at_call 25; (with_reducible refine (calendar_Working.calls k _ _ t436 t439 t458 _ ?side1 ?side2 A39.out).mono ?_); (case side1 => repeat (first | exact (Kd.R_reads' HO438.out).2.2 | (with_reducible refine Kd.C_alloc ?_ _) | (with_reducible refine Kd.C_drewN ?_ _) | (with_reducible refine Kd.C_drew ?_))); (case side2 => exact (Kd.R_reads' HO438.out).2.1); rintro e w' ⟨rfl, ⟨nd, rfl⟩⟩) | (go_at_call 29; (with_reducible refine (customsref04_Working.calls k _ _ t436 t439 t459 _ ?side1 ?side2 A40.out).mono ?_); (case side1 => repeat (first | exact (Kd.R_reads' HO438.out).2.2 | (with_reducible refine Kd.C_alloc ?_ _) | (with_reducible refine Kd.C_drewN ?_ _) | (with_reducible refine Kd.C_drew ?_))); (case side2 => exact (Kd.R_reads' HO438.out).2.1); rintro e w' ⟨rfl, ⟨nd, rfl⟩⟩))
       go_meet
       case rel => exact ⟨_, ((t458 != t459)), (by first | rfl | (simp; done) | (simp [*]; done)), H', ⟨by first | omega | exact Nat.le_refl _⟩, ⟨by (with_reducible repeat (first | apply Kd.R_alloc | apply Kd.R_drewN | apply Kd.R_drew)); exact HO438.out⟩, ⟨by repeat (first | (with_reducible first | exact HB.out | apply below_alloc | apply pw_below_drewN | apply below_drew1) | exact HB.out)⟩⟩
      ·
       rw [if_neg c38] at H
       have c38b0 : (t457 == 0) = false := beq_eq_false_iff_ne.mpr c38
       have c38b1 : (t457 != 0) = true := bne_iff_ne.mpr c38
       have H' := Aside0.mk H
       clear H
       obtain ⟨Ao42, co42, eo42⟩ := Kd.R_slice HO438.out
       subst eo42
       go_wp2_with (first | ((with_reducible refine gate_callee (f := 27) rfl ?_); refine goesL_ (some 31) rfl rfl Tryd.func27 (by kernel_rfl) rfl #[.slice Ao42 t436.length co42] rfl (by (try simp only [List.map_toArray, List.map_cons, List.map_nil]); first | done | rfl | (simp only [List.length_drop, List.length_take]; rfl)) ?_; (with_reducible refine (calendar_Valid.calls k _ _ t436 t455 _ ?side1 ?side2 A34.out).mono ?_); (case side1 => repeat (first | exact (Kd.R_reads' HO438.out).2.2 | (with_reducible refine Kd.C_alloc ?_ _) | (with_reducible refine Kd.C_drewN ?_ _) | (with_reducible refine Kd.C_drew ?_))); (case side2 => exact (Kd.R_reads' HO438.out).2.1); rintro e w' ⟨rfl, ⟨nd, rfl⟩⟩; refine ⟨_, rfl, ?_⟩) | ((with_reducible refine gate_callee (f := 28) rfl ?_); refine goesL_ (some 33) rfl rfl Tryd.func28 (by kernel_rfl) rfl #[.slice Ao42 t436.length co42] rfl (by (try simp only [List.map_toArray, List.map_cons, List.map_nil]); first | done | rfl | (simp only [List.length_drop, List.length_take]; rfl)) ?_; (with_reducible refine (customsref04_Valid.calls k _ _ t436 t456 _ ?side1 ?side2 A35.out).mono ?_); (case side1 => repeat (first | exact (Kd.R_reads' HO438.out).2.2 | (with_reducible refine Kd.C_alloc ?_ _) | (with_reducible refine Kd.C_drewN ?_ _) | (with_reducible refine Kd.C_drew ?_))); (case side2 => exact (Kd.R_reads' HO438.out).2.1); rintro e w' ⟨rfl, ⟨nd, rfl⟩⟩; refine ⟨_, rfl, ?_⟩) | (go_at_call 28; (with_reducible refine (customsref04_Valid.calls k _ _ t436 t457 _ ?side1 ?side2 A37.out).mono ?_); (case side1 => repeat (first | exact (Kd.R_reads' HO438.out).2.2 | (with_reducible refine Kd.C_alloc ?_ _) | (with_reducible refine Kd.C_drewN ?_ _) | (with_reducible refine Kd.C_drew ?_))); (case side2 => exact (Kd.R_reads' HO438.out).2.1); rintro e w' ⟨rfl, ⟨nd, rfl⟩⟩))
       go_meet
       case rel => exact ⟨_, (false), (by first | rfl | (simp; done) | (simp [*]; done)), H', ⟨by first | omega | exact Nat.le_refl _⟩, ⟨by (with_reducible repeat (first | apply Kd.R_alloc | apply Kd.R_drewN | apply Kd.R_drew)); exact HO438.out⟩, ⟨by repeat (first | (with_reducible first | exact HB.out | apply below_alloc | apply pw_below_drewN | apply below_drew1) | exact HB.out)⟩⟩
     ·
      rw [if_neg c36] at H
      have c36b0 : (t455 == t456) = false := beq_eq_false_iff_ne.mpr c36
      have c36b1 : (t455 != t456) = true := bne_iff_ne.mpr c36
      (first | rw [c36b0] | (simp only [i64_w, i32_w]; rw [c36b0]) | skip)
      have H' := Aside0.mk H
      clear H
      obtain ⟨Ao43, co43, eo43⟩ := Kd.R_slice HO438.out
      subst eo43
      go_wp2_with (first | ((with_reducible refine gate_callee (f := 27) rfl ?_); refine goesL_ (some 31) rfl rfl Tryd.func27 (by kernel_rfl) rfl #[.slice Ao43 t436.length co43] rfl (by (try simp only [List.map_toArray, List.map_cons, List.map_nil]); first | done | rfl | (simp only [List.length_drop, List.length_take]; rfl)) ?_; (with_reducible refine (calendar_Valid.calls k _ _ t436 t455 _ ?side1 ?side2 A34.out).mono ?_); (case side1 => repeat (first | exact (Kd.R_reads' HO438.out).2.2 | (with_reducible refine Kd.C_alloc ?_ _) | (with_reducible refine Kd.C_drewN ?_ _) | (with_reducible refine Kd.C_drew ?_))); (case side2 => exact (Kd.R_reads' HO438.out).2.1); rintro e w' ⟨rfl, ⟨nd, rfl⟩⟩; refine ⟨_, rfl, ?_⟩) | ((with_reducible refine gate_callee (f := 28) rfl ?_); refine goesL_ (some 33) rfl rfl Tryd.func28 (by kernel_rfl) rfl #[.slice Ao43 t436.length co43] rfl (by (try simp only [List.map_toArray, List.map_cons, List.map_nil]); first | done | rfl | (simp only [List.length_drop, List.length_take]; rfl)) ?_; (with_reducible refine (customsref04_Valid.calls k _ _ t436 t456 _ ?side1 ?side2 A35.out).mono ?_); (case side1 => repeat (first | exact (Kd.R_reads' HO438.out).2.2 | (with_reducible refine Kd.C_alloc ?_ _) | (with_reducible refine Kd.C_drewN ?_ _) | (with_reducible refine Kd.C_drew ?_))); (case side2 => exact (Kd.R_reads' HO438.out).2.1); rintro e w' ⟨rfl, ⟨nd, rfl⟩⟩; refine ⟨_, rfl, ?_⟩))
      go_meet
      case rel => exact ⟨_, (true), (by first | rfl | (simp; done) | (simp [*]; done)), H', ⟨by first | omega | exact Nat.le_refl _⟩, ⟨by (with_reducible repeat (first | apply Kd.R_alloc | apply Kd.R_drewN | apply Kd.R_drew)); exact HO438.out⟩, ⟨by repeat (first | (with_reducible first | exact HB.out | apply below_alloc | apply pw_below_drewN | apply below_drew1) | exact HB.out)⟩⟩
    case rest =>
     clear HC31
     try clear c1
     try clear c2
     try clear p2
     try clear c3
     try clear c5
     try clear c5b0
     try clear c5b1
     try clear c6
     try clear c6b0
     try clear c6b1
     try clear c7
     try clear c10
     try clear c11
     try clear c12
     try clear c12b0
     try clear c12b1
     try clear c14
     try clear c14b0
     try clear c14b1
     try clear c17
     try clear c18
     try clear c22
     try clear c22b0
     try clear c22b1
     try clear c23
     try clear c23b0
     try clear c23b1
     try clear c24
     try clear c24b0
     try clear c24b1
     try clear c25
     try clear c25b0
     try clear c25b1
     try clear c26
     try clear c27
     try clear c28
     try clear c30
     try clear c31
     try clear c32
     try clear c36
     try clear c36b0
     try clear c36b1
     try clear c38
     try clear c38b0
     try clear c38b1
     try clear p2
     obtain ⟨kq, x48_30, rfl, HA, HJ30, HO_0, HB⟩ := hcut
     cases kq with
     | zero => exact absurd HA.out (by simp [customslaw04_CalendarWorking.j1])
     | succ kj30 =>
      have H := HA.out
      clear HA
      simp only [customslaw04_CalendarWorking.j1] at H
      by_cases c44 : x48_30 = true
      ·
       subst c44
       have H1 : (some false) = some r := by rw [if_pos rfl] at H; exact H
       clear H
       have H := H1
       clear H1
       obtain rfl := Option.some.inj H
       go_wp2
       go_ret
       exact ⟨by first | rfl | (simp [errW_none, errW_some] <;> rfl) | (simp [*, errW_none, errW_some] <;> rfl), by repeat (first | (with_reducible first | exact HB.out | apply below_alloc | apply pw_below_drewN | apply below_drew1) | exact HB.out)⟩
      ·
       replace c44 := Bool.eq_false_iff.mpr c44
       subst c44
       have H1 : ((calendar_NextWorking.f kj30 t436 t439).bind fun bt460 => ((customsref04_NextWorking.f kj30 t436 t439).bind fun bt462 => ((calendar_AddWorking.f kj30 t436 t439 t440).bind fun bt464 => ((customsref04_AddWorking.f kj30 t436 t439 t440).bind fun bt466 => (if bt460.1 = bt462.1 then (if bt460.2 = bt462.2 then (if bt464.1 = bt466.1 then (if bt464.2 = bt466.2 then ((customslaw04_awake.f kj30).bind fun t468 => (some t468)) else (some false)) else (some false)) else (some false)) else (some false)))))) = some r := by rw [if_neg (show ¬ (false = true) by decide)] at H; exact H
       clear H
       have H := H1
       clear H1
       replace H := Option.bind_eq_some_iff.mp H
       obtain ⟨⟨t460, t461⟩, A450, H⟩ := H
       replace H : ((customsref04_NextWorking.f kj30 t436 t439).bind fun bt462 => ((calendar_AddWorking.f kj30 t436 t439 t440).bind fun bt464 => ((customsref04_AddWorking.f kj30 t436 t439 t440).bind fun bt466 => (if t460 = bt462.1 then (if t461 = bt462.2 then (if bt464.1 = bt466.1 then (if bt464.2 = bt466.2 then ((customslaw04_awake.f kj30).bind fun t468 => (some t468)) else (some false)) else (some false)) else (some false)) else (some false))))) = some r := H
       have A45 := Aside0.mk A450
       clear A450
       replace H := Option.bind_eq_some_iff.mp H
       obtain ⟨⟨t462, t463⟩, A460, H⟩ := H
       replace H : ((calendar_AddWorking.f kj30 t436 t439 t440).bind fun bt464 => ((customsref04_AddWorking.f kj30 t436 t439 t440).bind fun bt466 => (if t460 = t462 then (if t461 = t463 then (if bt464.1 = bt466.1 then (if bt464.2 = bt466.2 then ((customslaw04_awake.f kj30).bind fun t468 => (some t468)) else (some false)) else (some false)) else (some false)) else (some false)))) = some r := H
       have A46 := Aside0.mk A460
       clear A460
       replace H := Option.bind_eq_some_iff.mp H
       obtain ⟨⟨t464, t465⟩, A470, H⟩ := H
       replace H : ((customsref04_AddWorking.f kj30 t436 t439 t440).bind fun bt466 => (if t460 = t462 then (if t461 = t463 then (if t464 = bt466.1 then (if t465 = bt466.2 then ((customslaw04_awake.f kj30).bind fun t468 => (some t468)) else (some false)) else (some false)) else (some false)) else (some false))) = some r := H
       have A47 := Aside0.mk A470
       clear A470
       replace H := Option.bind_eq_some_iff.mp H
       obtain ⟨⟨t466, t467⟩, A480, H⟩ := H
       replace H : (if t460 = t462 then (if t461 = t463 then (if t464 = t466 then (if t465 = t467 then ((customslaw04_awake.f kj30).bind fun t468 => (some t468)) else (some false)) else (some false)) else (some false)) else (some false)) = some r := H
       have A48 := Aside0.mk A480
       clear A480
       by_cases c49 : t460 = t462
       ·
        rw [if_pos c49] at H
        have c49b0 : (t460 == t462) = true := beq_iff_eq.mpr c49
        have c49b1 : (t460 != t462) = false := bne_eq_false_iff_eq.mpr c49
        clear c49
        by_cases c50 : t461 = t463
        ·
         rw [if_pos c50] at H
         have c50b0 : (t461 == t463) = true := beq_iff_eq.mpr c50
         have c50b1 : (t461 != t463) = false := bne_eq_false_iff_eq.mpr c50
         clear c50
         by_cases c51 : t464 = t466
         ·
          rw [if_pos c51] at H
          have c51b0 : (t464 == t466) = true := beq_iff_eq.mpr c51
          have c51b1 : (t464 != t466) = false := bne_eq_false_iff_eq.mpr c51
          clear c51
          by_cases c52 : t465 = t467
          ·
           rw [if_pos c52] at H
           have c52b0 : (t465 == t467) = true := beq_iff_eq.mpr c52
           have c52b1 : (t465 != t467) = false := bne_eq_false_iff_eq.mpr c52
           clear c52
           replace H := Option.bind_eq_some_iff.mp H
           obtain ⟨t468, A530, H⟩ := H
           replace H : (some t468) = some r := H
           have A53 := Aside0.mk A530
           clear A530
           obtain rfl := Option.some.inj H
           obtain ⟨Ao54, co54, eo54⟩ := Kd.R_slice HO_0.out
           subst eo54
           go_wp2_with (first | ((with_reducible refine gate_callee (f := 30) rfl ?_); refine goesL_ (some 52) rfl rfl Tryd.func30 (by kernel_rfl) rfl #[.slice Ao54 t436.length co54, .int .i64 t439] rfl (by (try simp only [List.map_toArray, List.map_cons, List.map_nil]); first | done | rfl | (simp only [List.length_drop, List.length_take]; rfl)) ?_; (with_reducible refine (calendar_NextWorking.calls kj30 _ _ t436 t439 t460 t461 _ ?side1 ?side2 A45.out).mono ?_); (case side1 => repeat (first | exact (Kd.R_reads' HO_0.out).2.2 | (with_reducible refine Kd.C_alloc ?_ _) | (with_reducible refine Kd.C_drewN ?_ _) | (with_reducible refine Kd.C_drew ?_))); (case side2 => exact (Kd.R_reads' HO_0.out).2.1); rintro e w' ⟨rfl, ⟨nd, rfl⟩⟩; refine ⟨_, rfl, ?_⟩) | ((with_reducible refine gate_callee (f := 31) rfl ?_); refine goesL_ (some 58) rfl rfl Tryd.func31 (by kernel_rfl) rfl #[.slice Ao54 t436.length co54, .int .i64 t439] rfl (by (try simp only [List.map_toArray, List.map_cons, List.map_nil]); first | done | rfl | (simp only [List.length_drop, List.length_take]; rfl)) ?_; (with_reducible refine (customsref04_NextWorking.calls kj30 _ _ t436 t439 t462 t463 _ ?side1 ?side2 A46.out).mono ?_); (case side1 => repeat (first | exact (Kd.R_reads' HO_0.out).2.2 | (with_reducible refine Kd.C_alloc ?_ _) | (with_reducible refine Kd.C_drewN ?_ _) | (with_reducible refine Kd.C_drew ?_))); (case side2 => exact (Kd.R_reads' HO_0.out).2.1); rintro e w' ⟨rfl, ⟨nd, rfl⟩⟩; refine ⟨_, rfl, ?_⟩) | ((with_reducible refine gate_callee (f := 26) rfl ?_); refine goesL_ (some 65) rfl rfl Tryd.func26 (by kernel_rfl) rfl #[.slice Ao54 t436.length co54, .int .i64 t439, .int .i64 t440] rfl (by (try simp only [List.map_toArray, List.map_cons, List.map_nil]); first | done | rfl | (simp only [List.length_drop, List.length_take]; rfl)) ?_; (with_reducible refine (calendar_AddWorking.calls kj30 _ _ t436 t439 t440 t464 t465 _ ?side1 ?side2 A47.out).mono ?_); (case side1 => repeat (first | exact (Kd.R_reads' HO_0.out).2.2 | (with_reducible refine Kd.C_alloc ?_ _) | (with_reducible refine Kd.C_drewN ?_ _) | (with_reducible refine Kd.C_drew ?_))); (case side2 => exact (Kd.R_reads' HO_0.out).2.1); rintro e w' ⟨rfl, ⟨nd, rfl⟩⟩; refine ⟨_, rfl, ?_⟩) | ((with_reducible refine gate_callee (f := 32) rfl ?_); refine goesL_ (some 72) rfl rfl Tryd.func32 (by kernel_rfl) rfl #[.slice Ao54 t436.length co54, .int .i64 t439, .int .i64 t440] rfl (by (try simp only [List.map_toArray, List.map_cons, List.map_nil]); first | done | rfl | (simp only [List.length_drop, List.length_take]; rfl)) ?_; (with_reducible refine (customsref04_AddWorking.calls kj30 _ _ t436 t439 t440 t466 t467 _ ?side1 ?side2 A48.out).mono ?_); (case side1 => repeat (first | exact (Kd.R_reads' HO_0.out).2.2 | (with_reducible refine Kd.C_alloc ?_ _) | (with_reducible refine Kd.C_drewN ?_ _) | (with_reducible refine Kd.C_drew ?_))); (case side2 => exact (Kd.R_reads' HO_0.out).2.1); rintro e w' ⟨rfl, ⟨nd, rfl⟩⟩; refine ⟨_, rfl, ?_⟩) | (go_at_call 17; (with_reducible refine (customslaw04_awake.calls kj30  t468 _ ?side1 A53.out).mono ?_); (case side1 => exact GL_lengths.of_below (by repeat (first | (with_reducible first | exact HB.out | apply below_alloc | apply pw_below_drewN | apply below_drew1) | exact HB.out)) HG_lengths.out); rintro e w55 ⟨rfl, hb⟩; have n0_ := Aside0.mk (Kd.R_below (by (with_reducible repeat (first | apply Kd.R_alloc | apply Kd.R_drewN | apply Kd.R_drew)); exact HO_0.out) hb); have n1_ := Aside0.mk (below_step (by repeat (first | (with_reducible first | exact HB.out | apply below_alloc | apply pw_below_drewN | apply below_drew1) | exact HB.out)) hb); clear HO_0; clear HB; have HO_0 := n0_; have HB := n1_; clear n0_ n1_; (try clear hb); (try clear hb2); (try clear hk); (try clear hi)))
           go_ret
           exact ⟨by first | rfl | (simp [errW_none, errW_some] <;> rfl) | (simp [*, errW_none, errW_some] <;> rfl), by repeat (first | (with_reducible first | exact HB.out | apply below_alloc | apply pw_below_drewN | apply below_drew1) | exact HB.out)⟩
          ·
           rw [if_neg c52] at H
           have c52b0 : (t465 == t467) = false := beq_eq_false_iff_ne.mpr c52
           have c52b1 : (t465 != t467) = true := bne_iff_ne.mpr c52
           obtain rfl := Option.some.inj H
           obtain ⟨Ao56, co56, eo56⟩ := Kd.R_slice HO_0.out
           subst eo56
           go_wp2_with (first | ((with_reducible refine gate_callee (f := 30) rfl ?_); refine goesL_ (some 52) rfl rfl Tryd.func30 (by kernel_rfl) rfl #[.slice Ao56 t436.length co56, .int .i64 t439] rfl (by (try simp only [List.map_toArray, List.map_cons, List.map_nil]); first | done | rfl | (simp only [List.length_drop, List.length_take]; rfl)) ?_; (with_reducible refine (calendar_NextWorking.calls kj30 _ _ t436 t439 t460 t461 _ ?side1 ?side2 A45.out).mono ?_); (case side1 => repeat (first | exact (Kd.R_reads' HO_0.out).2.2 | (with_reducible refine Kd.C_alloc ?_ _) | (with_reducible refine Kd.C_drewN ?_ _) | (with_reducible refine Kd.C_drew ?_))); (case side2 => exact (Kd.R_reads' HO_0.out).2.1); rintro e w' ⟨rfl, ⟨nd, rfl⟩⟩; refine ⟨_, rfl, ?_⟩) | ((with_reducible refine gate_callee (f := 31) rfl ?_); refine goesL_ (some 58) rfl rfl Tryd.func31 (by kernel_rfl) rfl #[.slice Ao56 t436.length co56, .int .i64 t439] rfl (by (try simp only [List.map_toArray, List.map_cons, List.map_nil]); first | done | rfl | (simp only [List.length_drop, List.length_take]; rfl)) ?_; (with_reducible refine (customsref04_NextWorking.calls kj30 _ _ t436 t439 t462 t463 _ ?side1 ?side2 A46.out).mono ?_); (case side1 => repeat (first | exact (Kd.R_reads' HO_0.out).2.2 | (with_reducible refine Kd.C_alloc ?_ _) | (with_reducible refine Kd.C_drewN ?_ _) | (with_reducible refine Kd.C_drew ?_))); (case side2 => exact (Kd.R_reads' HO_0.out).2.1); rintro e w' ⟨rfl, ⟨nd, rfl⟩⟩; refine ⟨_, rfl, ?_⟩) | ((with_reducible refine gate_callee (f := 26) rfl ?_); refine goesL_ (some 65) rfl rfl Tryd.func26 (by kernel_rfl) rfl #[.slice Ao56 t436.length co56, .int .i64 t439, .int .i64 t440] rfl (by (try simp only [List.map_toArray, List.map_cons, List.map_nil]); first | done | rfl | (simp only [List.length_drop, List.length_take]; rfl)) ?_; (with_reducible refine (calendar_AddWorking.calls kj30 _ _ t436 t439 t440 t464 t465 _ ?side1 ?side2 A47.out).mono ?_); (case side1 => repeat (first | exact (Kd.R_reads' HO_0.out).2.2 | (with_reducible refine Kd.C_alloc ?_ _) | (with_reducible refine Kd.C_drewN ?_ _) | (with_reducible refine Kd.C_drew ?_))); (case side2 => exact (Kd.R_reads' HO_0.out).2.1); rintro e w' ⟨rfl, ⟨nd, rfl⟩⟩; refine ⟨_, rfl, ?_⟩) | ((with_reducible refine gate_callee (f := 32) rfl ?_); refine goesL_ (some 72) rfl rfl Tryd.func32 (by kernel_rfl) rfl #[.slice Ao56 t436.length co56, .int .i64 t439, .int .i64 t440] rfl (by (try simp only [List.map_toArray, List.map_cons, List.map_nil]); first | done | rfl | (simp only [List.length_drop, List.length_take]; rfl)) ?_; (with_reducible refine (customsref04_AddWorking.calls kj30 _ _ t436 t439 t440 t466 t467 _ ?side1 ?side2 A48.out).mono ?_); (case side1 => repeat (first | exact (Kd.R_reads' HO_0.out).2.2 | (with_reducible refine Kd.C_alloc ?_ _) | (with_reducible refine Kd.C_drewN ?_ _) | (with_reducible refine Kd.C_drew ?_))); (case side2 => exact (Kd.R_reads' HO_0.out).2.1); rintro e w' ⟨rfl, ⟨nd, rfl⟩⟩; refine ⟨_, rfl, ?_⟩))
           go_ret
           exact ⟨by first | rfl | (simp [errW_none, errW_some] <;> rfl) | (simp [*, errW_none, errW_some] <;> rfl), by repeat (first | (with_reducible first | exact HB.out | apply below_alloc | apply pw_below_drewN | apply below_drew1) | exact HB.out)⟩
         ·
          rw [if_neg c51] at H
          have c51b0 : (t464 == t466) = false := beq_eq_false_iff_ne.mpr c51
          have c51b1 : (t464 != t466) = true := bne_iff_ne.mpr c51
          obtain rfl := Option.some.inj H
          obtain ⟨Ao57, co57, eo57⟩ := Kd.R_slice HO_0.out
          subst eo57
          go_wp2_with (first | ((with_reducible refine gate_callee (f := 30) rfl ?_); refine goesL_ (some 52) rfl rfl Tryd.func30 (by kernel_rfl) rfl #[.slice Ao57 t436.length co57, .int .i64 t439] rfl (by (try simp only [List.map_toArray, List.map_cons, List.map_nil]); first | done | rfl | (simp only [List.length_drop, List.length_take]; rfl)) ?_; (with_reducible refine (calendar_NextWorking.calls kj30 _ _ t436 t439 t460 t461 _ ?side1 ?side2 A45.out).mono ?_); (case side1 => repeat (first | exact (Kd.R_reads' HO_0.out).2.2 | (with_reducible refine Kd.C_alloc ?_ _) | (with_reducible refine Kd.C_drewN ?_ _) | (with_reducible refine Kd.C_drew ?_))); (case side2 => exact (Kd.R_reads' HO_0.out).2.1); rintro e w' ⟨rfl, ⟨nd, rfl⟩⟩; refine ⟨_, rfl, ?_⟩) | ((with_reducible refine gate_callee (f := 31) rfl ?_); refine goesL_ (some 58) rfl rfl Tryd.func31 (by kernel_rfl) rfl #[.slice Ao57 t436.length co57, .int .i64 t439] rfl (by (try simp only [List.map_toArray, List.map_cons, List.map_nil]); first | done | rfl | (simp only [List.length_drop, List.length_take]; rfl)) ?_; (with_reducible refine (customsref04_NextWorking.calls kj30 _ _ t436 t439 t462 t463 _ ?side1 ?side2 A46.out).mono ?_); (case side1 => repeat (first | exact (Kd.R_reads' HO_0.out).2.2 | (with_reducible refine Kd.C_alloc ?_ _) | (with_reducible refine Kd.C_drewN ?_ _) | (with_reducible refine Kd.C_drew ?_))); (case side2 => exact (Kd.R_reads' HO_0.out).2.1); rintro e w' ⟨rfl, ⟨nd, rfl⟩⟩; refine ⟨_, rfl, ?_⟩) | ((with_reducible refine gate_callee (f := 26) rfl ?_); refine goesL_ (some 65) rfl rfl Tryd.func26 (by kernel_rfl) rfl #[.slice Ao57 t436.length co57, .int .i64 t439, .int .i64 t440] rfl (by (try simp only [List.map_toArray, List.map_cons, List.map_nil]); first | done | rfl | (simp only [List.length_drop, List.length_take]; rfl)) ?_; (with_reducible refine (calendar_AddWorking.calls kj30 _ _ t436 t439 t440 t464 t465 _ ?side1 ?side2 A47.out).mono ?_); (case side1 => repeat (first | exact (Kd.R_reads' HO_0.out).2.2 | (with_reducible refine Kd.C_alloc ?_ _) | (with_reducible refine Kd.C_drewN ?_ _) | (with_reducible refine Kd.C_drew ?_))); (case side2 => exact (Kd.R_reads' HO_0.out).2.1); rintro e w' ⟨rfl, ⟨nd, rfl⟩⟩; refine ⟨_, rfl, ?_⟩) | ((with_reducible refine gate_callee (f := 32) rfl ?_); refine goesL_ (some 72) rfl rfl Tryd.func32 (by kernel_rfl) rfl #[.slice Ao57 t436.length co57, .int .i64 t439, .int .i64 t440] rfl (by (try simp only [List.map_toArray, List.map_cons, List.map_nil]); first | done | rfl | (simp only [List.length_drop, List.length_take]; rfl)) ?_; (with_reducible refine (customsref04_AddWorking.calls kj30 _ _ t436 t439 t440 t466 t467 _ ?side1 ?side2 A48.out).mono ?_); (case side1 => repeat (first | exact (Kd.R_reads' HO_0.out).2.2 | (with_reducible refine Kd.C_alloc ?_ _) | (with_reducible refine Kd.C_drewN ?_ _) | (with_reducible refine Kd.C_drew ?_))); (case side2 => exact (Kd.R_reads' HO_0.out).2.1); rintro e w' ⟨rfl, ⟨nd, rfl⟩⟩; refine ⟨_, rfl, ?_⟩))
          go_ret
          exact ⟨by first | rfl | (simp [errW_none, errW_some] <;> rfl) | (simp [*, errW_none, errW_some] <;> rfl), by repeat (first | (with_reducible first | exact HB.out | apply below_alloc | apply pw_below_drewN | apply below_drew1) | exact HB.out)⟩
        ·
         rw [if_neg c50] at H
         have c50b0 : (t461 == t463) = false := beq_eq_false_iff_ne.mpr c50
         have c50b1 : (t461 != t463) = true := bne_iff_ne.mpr c50
         obtain rfl := Option.some.inj H
         obtain ⟨Ao58, co58, eo58⟩ := Kd.R_slice HO_0.out
         subst eo58
         go_wp2_with (first | ((with_reducible refine gate_callee (f := 30) rfl ?_); refine goesL_ (some 52) rfl rfl Tryd.func30 (by kernel_rfl) rfl #[.slice Ao58 t436.length co58, .int .i64 t439] rfl (by (try simp only [List.map_toArray, List.map_cons, List.map_nil]); first | done | rfl | (simp only [List.length_drop, List.length_take]; rfl)) ?_; (with_reducible refine (calendar_NextWorking.calls kj30 _ _ t436 t439 t460 t461 _ ?side1 ?side2 A45.out).mono ?_); (case side1 => repeat (first | exact (Kd.R_reads' HO_0.out).2.2 | (with_reducible refine Kd.C_alloc ?_ _) | (with_reducible refine Kd.C_drewN ?_ _) | (with_reducible refine Kd.C_drew ?_))); (case side2 => exact (Kd.R_reads' HO_0.out).2.1); rintro e w' ⟨rfl, ⟨nd, rfl⟩⟩; refine ⟨_, rfl, ?_⟩) | ((with_reducible refine gate_callee (f := 31) rfl ?_); refine goesL_ (some 58) rfl rfl Tryd.func31 (by kernel_rfl) rfl #[.slice Ao58 t436.length co58, .int .i64 t439] rfl (by (try simp only [List.map_toArray, List.map_cons, List.map_nil]); first | done | rfl | (simp only [List.length_drop, List.length_take]; rfl)) ?_; (with_reducible refine (customsref04_NextWorking.calls kj30 _ _ t436 t439 t462 t463 _ ?side1 ?side2 A46.out).mono ?_); (case side1 => repeat (first | exact (Kd.R_reads' HO_0.out).2.2 | (with_reducible refine Kd.C_alloc ?_ _) | (with_reducible refine Kd.C_drewN ?_ _) | (with_reducible refine Kd.C_drew ?_))); (case side2 => exact (Kd.R_reads' HO_0.out).2.1); rintro e w' ⟨rfl, ⟨nd, rfl⟩⟩; refine ⟨_, rfl, ?_⟩) | ((with_reducible refine gate_callee (f := 26) rfl ?_); refine goesL_ (some 65) rfl rfl Tryd.func26 (by kernel_rfl) rfl #[.slice Ao58 t436.length co58, .int .i64 t439, .int .i64 t440] rfl (by (try simp only [List.map_toArray, List.map_cons, List.map_nil]); first | done | rfl | (simp only [List.length_drop, List.length_take]; rfl)) ?_; (with_reducible refine (calendar_AddWorking.calls kj30 _ _ t436 t439 t440 t464 t465 _ ?side1 ?side2 A47.out).mono ?_); (case side1 => repeat (first | exact (Kd.R_reads' HO_0.out).2.2 | (with_reducible refine Kd.C_alloc ?_ _) | (with_reducible refine Kd.C_drewN ?_ _) | (with_reducible refine Kd.C_drew ?_))); (case side2 => exact (Kd.R_reads' HO_0.out).2.1); rintro e w' ⟨rfl, ⟨nd, rfl⟩⟩; refine ⟨_, rfl, ?_⟩) | ((with_reducible refine gate_callee (f := 32) rfl ?_); refine goesL_ (some 72) rfl rfl Tryd.func32 (by kernel_rfl) rfl #[.slice Ao58 t436.length co58, .int .i64 t439, .int .i64 t440] rfl (by (try simp only [List.map_toArray, List.map_cons, List.map_nil]); first | done | rfl | (simp only [List.length_drop, List.length_take]; rfl)) ?_; (with_reducible refine (customsref04_AddWorking.calls kj30 _ _ t436 t439 t440 t466 t467 _ ?side1 ?side2 A48.out).mono ?_); (case side1 => repeat (first | exact (Kd.R_reads' HO_0.out).2.2 | (with_reducible refine Kd.C_alloc ?_ _) | (with_reducible refine Kd.C_drewN ?_ _) | (with_reducible refine Kd.C_drew ?_))); (case side2 => exact (Kd.R_reads' HO_0.out).2.1); rintro e w' ⟨rfl, ⟨nd, rfl⟩⟩; refine ⟨_, rfl, ?_⟩))
         go_ret
         exact ⟨by first | rfl | (simp [errW_none, errW_some] <;> rfl) | (simp [*, errW_none, errW_some] <;> rfl), by repeat (first | (with_reducible first | exact HB.out | apply below_alloc | apply pw_below_drewN | apply below_drew1) | exact HB.out)⟩
       ·
        rw [if_neg c49] at H
        have c49b0 : (t460 == t462) = false := beq_eq_false_iff_ne.mpr c49
        have c49b1 : (t460 != t462) = true := bne_iff_ne.mpr c49
        obtain rfl := Option.some.inj H
        obtain ⟨Ao59, co59, eo59⟩ := Kd.R_slice HO_0.out
        subst eo59
        go_wp2_with (first | ((with_reducible refine gate_callee (f := 30) rfl ?_); refine goesL_ (some 52) rfl rfl Tryd.func30 (by kernel_rfl) rfl #[.slice Ao59 t436.length co59, .int .i64 t439] rfl (by (try simp only [List.map_toArray, List.map_cons, List.map_nil]); first | done | rfl | (simp only [List.length_drop, List.length_take]; rfl)) ?_; (with_reducible refine (calendar_NextWorking.calls kj30 _ _ t436 t439 t460 t461 _ ?side1 ?side2 A45.out).mono ?_); (case side1 => repeat (first | exact (Kd.R_reads' HO_0.out).2.2 | (with_reducible refine Kd.C_alloc ?_ _) | (with_reducible refine Kd.C_drewN ?_ _) | (with_reducible refine Kd.C_drew ?_))); (case side2 => exact (Kd.R_reads' HO_0.out).2.1); rintro e w' ⟨rfl, ⟨nd, rfl⟩⟩; refine ⟨_, rfl, ?_⟩) | ((with_reducible refine gate_callee (f := 31) rfl ?_); refine goesL_ (some 58) rfl rfl Tryd.func31 (by kernel_rfl) rfl #[.slice Ao59 t436.length co59, .int .i64 t439] rfl (by (try simp only [List.map_toArray, List.map_cons, List.map_nil]); first | done | rfl | (simp only [List.length_drop, List.length_take]; rfl)) ?_; (with_reducible refine (customsref04_NextWorking.calls kj30 _ _ t436 t439 t462 t463 _ ?side1 ?side2 A46.out).mono ?_); (case side1 => repeat (first | exact (Kd.R_reads' HO_0.out).2.2 | (with_reducible refine Kd.C_alloc ?_ _) | (with_reducible refine Kd.C_drewN ?_ _) | (with_reducible refine Kd.C_drew ?_))); (case side2 => exact (Kd.R_reads' HO_0.out).2.1); rintro e w' ⟨rfl, ⟨nd, rfl⟩⟩; refine ⟨_, rfl, ?_⟩) | ((with_reducible refine gate_callee (f := 26) rfl ?_); refine goesL_ (some 65) rfl rfl Tryd.func26 (by kernel_rfl) rfl #[.slice Ao59 t436.length co59, .int .i64 t439, .int .i64 t440] rfl (by (try simp only [List.map_toArray, List.map_cons, List.map_nil]); first | done | rfl | (simp only [List.length_drop, List.length_take]; rfl)) ?_; (with_reducible refine (calendar_AddWorking.calls kj30 _ _ t436 t439 t440 t464 t465 _ ?side1 ?side2 A47.out).mono ?_); (case side1 => repeat (first | exact (Kd.R_reads' HO_0.out).2.2 | (with_reducible refine Kd.C_alloc ?_ _) | (with_reducible refine Kd.C_drewN ?_ _) | (with_reducible refine Kd.C_drew ?_))); (case side2 => exact (Kd.R_reads' HO_0.out).2.1); rintro e w' ⟨rfl, ⟨nd, rfl⟩⟩; refine ⟨_, rfl, ?_⟩) | ((with_reducible refine gate_callee (f := 32) rfl ?_); refine goesL_ (some 72) rfl rfl Tryd.func32 (by kernel_rfl) rfl #[.slice Ao59 t436.length co59, .int .i64 t439, .int .i64 t440] rfl (by (try simp only [List.map_toArray, List.map_cons, List.map_nil]); first | done | rfl | (simp only [List.length_drop, List.length_take]; rfl)) ?_; (with_reducible refine (customsref04_AddWorking.calls kj30 _ _ t436 t439 t440 t466 t467 _ ?side1 ?side2 A48.out).mono ?_); (case side1 => repeat (first | exact (Kd.R_reads' HO_0.out).2.2 | (with_reducible refine Kd.C_alloc ?_ _) | (with_reducible refine Kd.C_drewN ?_ _) | (with_reducible refine Kd.C_drew ?_))); (case side2 => exact (Kd.R_reads' HO_0.out).2.1); rintro e w' ⟨rfl, ⟨nd, rfl⟩⟩; refine ⟨_, rfl, ?_⟩))
        go_ret
        exact ⟨by first | rfl | (simp [errW_none, errW_some] <;> rfl) | (simp [*, errW_none, errW_some] <;> rfl), by repeat (first | (with_reducible first | exact HB.out | apply below_alloc | apply pw_below_drewN | apply below_drew1) | exact HB.out)⟩
  ·
   rw [if_neg c6] at H
   exact absurd H (by simp)
 ·
  rw [if_neg c5] at H
  have c5b0 : decide (300 < (l0.length : Int)) = false := decide_eq_false c5
  have c5b1 : decide (300 < l0.length) = false := decide_eq_false (by omega)
  clear c5
  by_cases c60 : a3 = true
  ·
   subst c60
   have H1 : ((calendar_Valid.f k l0).bind fun t474 => ((customsref04_Valid.f k l0).bind fun t475 => (if t474 = t475 then ((customsref04_Valid.f k l0).bind fun t476 => (if t476 = 0 then ((calendar_Working.f k l0 a1).bind fun t477 => ((customsref04_Working.f k l0 a1).bind fun t478 => (customslaw04_CalendarWorking.j2 k l0 a1 a2 (t477 != t478)))) else (customslaw04_CalendarWorking.j2 k l0 a1 a2 false))) else (customslaw04_CalendarWorking.j2 k l0 a1 a2 true)))) = some r := by rw [if_pos rfl] at H; exact H
   clear H
   have H := H1
   clear H1
   have HC61 := Aside0.mk H
   clear H
   go_enter Tryd.func10, Tryd.ntmps10
   go_upto_region 5 with (fail)
   go_cut [48] (fun v48 wc => ∃ (kq : Nat) (x48_60 : Bool), v48 = .bool x48_60 ∧ Aside0 (customslaw04_CalendarWorking.j2 kq l0 a1 a2 x48_60 = some r) ∧ Aside0 (kq ≤ k) ∧ Aside0 (Below w.heap.size w wc))
   case first =>
    have H := HC61.out
    clear HC61
    replace H := Option.bind_eq_some_iff.mp H
    obtain ⟨t474, A620, H⟩ := H
    replace H : ((customsref04_Valid.f k l0).bind fun t475 => (if t474 = t475 then ((customsref04_Valid.f k l0).bind fun t476 => (if t476 = 0 then ((calendar_Working.f k l0 a1).bind fun t477 => ((customsref04_Working.f k l0 a1).bind fun t478 => (customslaw04_CalendarWorking.j2 k l0 a1 a2 (t477 != t478)))) else (customslaw04_CalendarWorking.j2 k l0 a1 a2 false))) else (customslaw04_CalendarWorking.j2 k l0 a1 a2 true))) = some r := H
    have A62 := Aside0.mk A620
    clear A620
    replace H := Option.bind_eq_some_iff.mp H
    obtain ⟨t475, A630, H⟩ := H
    replace H : (if t474 = t475 then ((customsref04_Valid.f k l0).bind fun t476 => (if t476 = 0 then ((calendar_Working.f k l0 a1).bind fun t477 => ((customsref04_Working.f k l0 a1).bind fun t478 => (customslaw04_CalendarWorking.j2 k l0 a1 a2 (t477 != t478)))) else (customslaw04_CalendarWorking.j2 k l0 a1 a2 false))) else (customslaw04_CalendarWorking.j2 k l0 a1 a2 true)) = some r := H
    have A63 := Aside0.mk A630
    clear A630
    by_cases c64 : t474 = t475
    ·
     rw [if_pos c64] at H
     have c64b0 : (t474 == t475) = true := beq_iff_eq.mpr c64
     have c64b1 : (t474 != t475) = false := bne_eq_false_iff_eq.mpr c64
     clear c64
     (first | rw [c64b0] | (simp only [i64_w, i32_w]; rw [c64b0]) | skip)
     replace H := Option.bind_eq_some_iff.mp H
     obtain ⟨t476, A650, H⟩ := H
     replace H : (if t476 = 0 then ((calendar_Working.f k l0 a1).bind fun t477 => ((customsref04_Working.f k l0 a1).bind fun t478 => (customslaw04_CalendarWorking.j2 k l0 a1 a2 (t477 != t478)))) else (customslaw04_CalendarWorking.j2 k l0 a1 a2 false)) = some r := H
     have A65 := Aside0.mk A650
     clear A650
     by_cases c66 : t476 = 0
     ·
      rw [if_pos c66] at H
      have c66b0 : (t476 == 0) = true := beq_iff_eq.mpr c66
      have c66b1 : (t476 != 0) = false := bne_eq_false_iff_eq.mpr c66
      clear c66
      replace H := Option.bind_eq_some_iff.mp H
      obtain ⟨t477, A670, H⟩ := H
      replace H : ((customsref04_Working.f k l0 a1).bind fun t478 => (customslaw04_CalendarWorking.j2 k l0 a1 a2 (t477 != t478))) = some r := H
      have A67 := Aside0.mk A670
      clear A670
      replace H := Option.bind_eq_some_iff.mp H
      obtain ⟨t478, A680, H⟩ := H
      replace H : (customslaw04_CalendarWorking.j2 k l0 a1 a2 (t477 != t478)) = some r := H
      have A68 := Aside0.mk A680
      clear A680
      have H' := Aside0.mk H
      clear H
      go_wp2_with (first | ((with_reducible refine gate_callee (f := 27) rfl ?_); refine goesL_ (some 31) rfl rfl Tryd.func27 (by kernel_rfl) rfl #[.slice A0 l0.length c0] rfl (by (try simp only [List.map_toArray, List.map_cons, List.map_nil]); first | done | rfl | (simp only [List.length_drop, List.length_take]; rfl)) ?_; (with_reducible refine (calendar_Valid.calls k _ _ l0 t474 _ ?side1 ?side2 A62.out).mono ?_); (case side1 => repeat (first | exact (Kd.C_below HR0.out HB.out) | (with_reducible refine Kd.C_alloc ?_ _) | (with_reducible refine Kd.C_drewN ?_ _) | (with_reducible refine Kd.C_drew ?_))); (case side2 => exact HC0.out); rintro e w' ⟨rfl, ⟨nd, rfl⟩⟩; refine ⟨_, rfl, ?_⟩) | ((with_reducible refine gate_callee (f := 28) rfl ?_); refine goesL_ (some 33) rfl rfl Tryd.func28 (by kernel_rfl) rfl #[.slice A0 l0.length c0] rfl (by (try simp only [List.map_toArray, List.map_cons, List.map_nil]); first | done | rfl | (simp only [List.length_drop, List.length_take]; rfl)) ?_; (with_reducible refine (customsref04_Valid.calls k _ _ l0 t475 _ ?side1 ?side2 A63.out).mono ?_); (case side1 => repeat (first | exact (Kd.C_below HR0.out (by repeat (first | (with_reducible first | exact HB.out | apply below_alloc | apply pw_below_drewN | apply below_drew1) | exact HB.out))) | (with_reducible refine Kd.C_alloc ?_ _) | (with_reducible refine Kd.C_drewN ?_ _) | (with_reducible refine Kd.C_drew ?_))); (case side2 => exact HC0.out); rintro e w' ⟨rfl, ⟨nd, rfl⟩⟩; refine ⟨_, rfl, ?_⟩) | (go_at_call 28; (with_reducible refine (customsref04_Valid.calls k _ _ l0 t476 _ ?side1 ?side2 A65.out).mono ?_); (case side1 => repeat (first | exact (Kd.C_below HR0.out (by repeat (first | (with_reducible first | exact HB.out | apply below_alloc | apply pw_below_drewN | apply below_drew1) | exact HB.out))) | (with_reducible refine Kd.C_alloc ?_ _) | (with_reducible refine Kd.C_drewN ?_ _) | (with_reducible refine Kd.C_drew ?_))); (case side2 => exact HC0.out); rintro e w' ⟨rfl, ⟨nd, rfl⟩⟩) | (go_at_call 25; (with_reducible refine (calendar_Working.calls k _ _ l0 a1 t477 _ ?side1 ?side2 A67.out).mono ?_); (case side1 => repeat (first | exact (Kd.C_below HR0.out (by repeat (first | (with_reducible first | exact HB.out | apply below_alloc | apply pw_below_drewN | apply below_drew1) | exact HB.out))) | (with_reducible refine Kd.C_alloc ?_ _) | (with_reducible refine Kd.C_drewN ?_ _) | (with_reducible refine Kd.C_drew ?_))); (case side2 => exact HC0.out); rintro e w' ⟨rfl, ⟨nd, rfl⟩⟩) | (go_at_call 29; (with_reducible refine (customsref04_Working.calls k _ _ l0 a1 t478 _ ?side1 ?side2 A68.out).mono ?_); (case side1 => repeat (first | exact (Kd.C_below HR0.out (by repeat (first | (with_reducible first | exact HB.out | apply below_alloc | apply pw_below_drewN | apply below_drew1) | exact HB.out))) | (with_reducible refine Kd.C_alloc ?_ _) | (with_reducible refine Kd.C_drewN ?_ _) | (with_reducible refine Kd.C_drew ?_))); (case side2 => exact HC0.out); rintro e w' ⟨rfl, ⟨nd, rfl⟩⟩))
      go_meet
      case rel => exact ⟨_, ((t477 != t478)), (by first | rfl | (simp; done) | (simp [*]; done)), H', ⟨by first | omega | exact Nat.le_refl _⟩, ⟨by repeat (first | (with_reducible first | exact HB.out | apply below_alloc | apply pw_below_drewN | apply below_drew1) | exact HB.out)⟩⟩
     ·
      rw [if_neg c66] at H
      have c66b0 : (t476 == 0) = false := beq_eq_false_iff_ne.mpr c66
      have c66b1 : (t476 != 0) = true := bne_iff_ne.mpr c66
      have H' := Aside0.mk H
      clear H
      go_wp2_with (first | ((with_reducible refine gate_callee (f := 27) rfl ?_); refine goesL_ (some 31) rfl rfl Tryd.func27 (by kernel_rfl) rfl #[.slice A0 l0.length c0] rfl (by (try simp only [List.map_toArray, List.map_cons, List.map_nil]); first | done | rfl | (simp only [List.length_drop, List.length_take]; rfl)) ?_; (with_reducible refine (calendar_Valid.calls k _ _ l0 t474 _ ?side1 ?side2 A62.out).mono ?_); (case side1 => repeat (first | exact (Kd.C_below HR0.out HB.out) | (with_reducible refine Kd.C_alloc ?_ _) | (with_reducible refine Kd.C_drewN ?_ _) | (with_reducible refine Kd.C_drew ?_))); (case side2 => exact HC0.out); rintro e w' ⟨rfl, ⟨nd, rfl⟩⟩; refine ⟨_, rfl, ?_⟩) | ((with_reducible refine gate_callee (f := 28) rfl ?_); refine goesL_ (some 33) rfl rfl Tryd.func28 (by kernel_rfl) rfl #[.slice A0 l0.length c0] rfl (by (try simp only [List.map_toArray, List.map_cons, List.map_nil]); first | done | rfl | (simp only [List.length_drop, List.length_take]; rfl)) ?_; (with_reducible refine (customsref04_Valid.calls k _ _ l0 t475 _ ?side1 ?side2 A63.out).mono ?_); (case side1 => repeat (first | exact (Kd.C_below HR0.out (by repeat (first | (with_reducible first | exact HB.out | apply below_alloc | apply pw_below_drewN | apply below_drew1) | exact HB.out))) | (with_reducible refine Kd.C_alloc ?_ _) | (with_reducible refine Kd.C_drewN ?_ _) | (with_reducible refine Kd.C_drew ?_))); (case side2 => exact HC0.out); rintro e w' ⟨rfl, ⟨nd, rfl⟩⟩; refine ⟨_, rfl, ?_⟩) | (go_at_call 28; (with_reducible refine (customsref04_Valid.calls k _ _ l0 t476 _ ?side1 ?side2 A65.out).mono ?_); (case side1 => repeat (first | exact (Kd.C_below HR0.out (by repeat (first | (with_reducible first | exact HB.out | apply below_alloc | apply pw_below_drewN | apply below_drew1) | exact HB.out))) | (with_reducible refine Kd.C_alloc ?_ _) | (with_reducible refine Kd.C_drewN ?_ _) | (with_reducible refine Kd.C_drew ?_))); (case side2 => exact HC0.out); rintro e w' ⟨rfl, ⟨nd, rfl⟩⟩))
      go_meet
      case rel => exact ⟨_, (false), (by first | rfl | (simp; done) | (simp [*]; done)), H', ⟨by first | omega | exact Nat.le_refl _⟩, ⟨by repeat (first | (with_reducible first | exact HB.out | apply below_alloc | apply pw_below_drewN | apply below_drew1) | exact HB.out)⟩⟩
    ·
     rw [if_neg c64] at H
     have c64b0 : (t474 == t475) = false := beq_eq_false_iff_ne.mpr c64
     have c64b1 : (t474 != t475) = true := bne_iff_ne.mpr c64
     (first | rw [c64b0] | (simp only [i64_w, i32_w]; rw [c64b0]) | skip)
     have H' := Aside0.mk H
     clear H
     go_wp2_with (first | ((with_reducible refine gate_callee (f := 27) rfl ?_); refine goesL_ (some 31) rfl rfl Tryd.func27 (by kernel_rfl) rfl #[.slice A0 l0.length c0] rfl (by (try simp only [List.map_toArray, List.map_cons, List.map_nil]); first | done | rfl | (simp only [List.length_drop, List.length_take]; rfl)) ?_; (with_reducible refine (calendar_Valid.calls k _ _ l0 t474 _ ?side1 ?side2 A62.out).mono ?_); (case side1 => repeat (first | exact (Kd.C_below HR0.out HB.out) | (with_reducible refine Kd.C_alloc ?_ _) | (with_reducible refine Kd.C_drewN ?_ _) | (with_reducible refine Kd.C_drew ?_))); (case side2 => exact HC0.out); rintro e w' ⟨rfl, ⟨nd, rfl⟩⟩; refine ⟨_, rfl, ?_⟩) | ((with_reducible refine gate_callee (f := 28) rfl ?_); refine goesL_ (some 33) rfl rfl Tryd.func28 (by kernel_rfl) rfl #[.slice A0 l0.length c0] rfl (by (try simp only [List.map_toArray, List.map_cons, List.map_nil]); first | done | rfl | (simp only [List.length_drop, List.length_take]; rfl)) ?_; (with_reducible refine (customsref04_Valid.calls k _ _ l0 t475 _ ?side1 ?side2 A63.out).mono ?_); (case side1 => repeat (first | exact (Kd.C_below HR0.out (by repeat (first | (with_reducible first | exact HB.out | apply below_alloc | apply pw_below_drewN | apply below_drew1) | exact HB.out))) | (with_reducible refine Kd.C_alloc ?_ _) | (with_reducible refine Kd.C_drewN ?_ _) | (with_reducible refine Kd.C_drew ?_))); (case side2 => exact HC0.out); rintro e w' ⟨rfl, ⟨nd, rfl⟩⟩; refine ⟨_, rfl, ?_⟩))
     go_meet
     case rel => exact ⟨_, (true), (by first | rfl | (simp; done) | (simp [*]; done)), H', ⟨by first | omega | exact Nat.le_refl _⟩, ⟨by repeat (first | (with_reducible first | exact HB.out | apply below_alloc | apply pw_below_drewN | apply below_drew1) | exact HB.out)⟩⟩
   case rest =>
    clear HC61
    try clear c1
    try clear c2
    try clear p2
    try clear c3
    try clear c4
    try clear c5
    try clear c5b0
    try clear c5b1
    try clear c6
    try clear c6b0
    try clear c6b1
    try clear c7
    try clear c10
    try clear c11
    try clear c12
    try clear c12b0
    try clear c12b1
    try clear c14
    try clear c14b0
    try clear c14b1
    try clear c17
    try clear c18
    try clear c22
    try clear c22b0
    try clear c22b1
    try clear c23
    try clear c23b0
    try clear c23b1
    try clear c24
    try clear c24b0
    try clear c24b1
    try clear c25
    try clear c25b0
    try clear c25b1
    try clear c26
    try clear c27
    try clear c28
    try clear c30
    try clear c31
    try clear c32
    try clear c36
    try clear c36b0
    try clear c36b1
    try clear c38
    try clear c38b0
    try clear c38b1
    try clear c44
    try clear c49
    try clear c49b0
    try clear c49b1
    try clear c50
    try clear c50b0
    try clear c50b1
    try clear c51
    try clear c51b0
    try clear c51b1
    try clear c52
    try clear c52b0
    try clear c52b1
    try clear c60
    try clear c64
    try clear c64b0
    try clear c64b1
    try clear c66
    try clear c66b0
    try clear c66b1
    try clear p2
    obtain ⟨kq, x48_60, rfl, HA, HJ60, HB⟩ := hcut
    cases kq with
    | zero => exact absurd HA.out (by simp [customslaw04_CalendarWorking.j2])
    | succ kj60 =>
     have H := HA.out
     clear HA
     simp only [customslaw04_CalendarWorking.j2] at H
     by_cases c69 : x48_60 = true
     ·
      subst c69
      have H1 : (some false) = some r := by rw [if_pos rfl] at H; exact H
      clear H
      have H := H1
      clear H1
      obtain rfl := Option.some.inj H
      go_wp2
      go_ret
      exact ⟨by first | rfl | (simp [errW_none, errW_some] <;> rfl) | (simp [*, errW_none, errW_some] <;> rfl), by repeat (first | (with_reducible first | exact HB.out | apply below_alloc | apply pw_below_drewN | apply below_drew1) | exact HB.out)⟩
     ·
      replace c69 := Bool.eq_false_iff.mpr c69
      subst c69
      have H1 : ((calendar_NextWorking.f kj60 l0 a1).bind fun bt479 => ((customsref04_NextWorking.f kj60 l0 a1).bind fun bt481 => ((calendar_AddWorking.f kj60 l0 a1 a2).bind fun bt483 => ((customsref04_AddWorking.f kj60 l0 a1 a2).bind fun bt485 => (if bt479.1 = bt481.1 then (if bt479.2 = bt481.2 then (if bt483.1 = bt485.1 then (if bt483.2 = bt485.2 then ((customslaw04_awake.f kj60).bind fun t487 => (some t487)) else (some false)) else (some false)) else (some false)) else (some false)))))) = some r := by rw [if_neg (show ¬ (false = true) by decide)] at H; exact H
      clear H
      have H := H1
      clear H1
      replace H := Option.bind_eq_some_iff.mp H
      obtain ⟨⟨t479, t480⟩, A700, H⟩ := H
      replace H : ((customsref04_NextWorking.f kj60 l0 a1).bind fun bt481 => ((calendar_AddWorking.f kj60 l0 a1 a2).bind fun bt483 => ((customsref04_AddWorking.f kj60 l0 a1 a2).bind fun bt485 => (if t479 = bt481.1 then (if t480 = bt481.2 then (if bt483.1 = bt485.1 then (if bt483.2 = bt485.2 then ((customslaw04_awake.f kj60).bind fun t487 => (some t487)) else (some false)) else (some false)) else (some false)) else (some false))))) = some r := H
      have A70 := Aside0.mk A700
      clear A700
      replace H := Option.bind_eq_some_iff.mp H
      obtain ⟨⟨t481, t482⟩, A710, H⟩ := H
      replace H : ((calendar_AddWorking.f kj60 l0 a1 a2).bind fun bt483 => ((customsref04_AddWorking.f kj60 l0 a1 a2).bind fun bt485 => (if t479 = t481 then (if t480 = t482 then (if bt483.1 = bt485.1 then (if bt483.2 = bt485.2 then ((customslaw04_awake.f kj60).bind fun t487 => (some t487)) else (some false)) else (some false)) else (some false)) else (some false)))) = some r := H
      have A71 := Aside0.mk A710
      clear A710
      replace H := Option.bind_eq_some_iff.mp H
      obtain ⟨⟨t483, t484⟩, A720, H⟩ := H
      replace H : ((customsref04_AddWorking.f kj60 l0 a1 a2).bind fun bt485 => (if t479 = t481 then (if t480 = t482 then (if t483 = bt485.1 then (if t484 = bt485.2 then ((customslaw04_awake.f kj60).bind fun t487 => (some t487)) else (some false)) else (some false)) else (some false)) else (some false))) = some r := H
      have A72 := Aside0.mk A720
      clear A720
      replace H := Option.bind_eq_some_iff.mp H
      obtain ⟨⟨t485, t486⟩, A730, H⟩ := H
      replace H : (if t479 = t481 then (if t480 = t482 then (if t483 = t485 then (if t484 = t486 then ((customslaw04_awake.f kj60).bind fun t487 => (some t487)) else (some false)) else (some false)) else (some false)) else (some false)) = some r := H
      have A73 := Aside0.mk A730
      clear A730
      by_cases c74 : t479 = t481
      ·
       rw [if_pos c74] at H
       have c74b0 : (t479 == t481) = true := beq_iff_eq.mpr c74
       have c74b1 : (t479 != t481) = false := bne_eq_false_iff_eq.mpr c74
       clear c74
       by_cases c75 : t480 = t482
       ·
        rw [if_pos c75] at H
        have c75b0 : (t480 == t482) = true := beq_iff_eq.mpr c75
        have c75b1 : (t480 != t482) = false := bne_eq_false_iff_eq.mpr c75
        clear c75
        by_cases c76 : t483 = t485
        ·
         rw [if_pos c76] at H
         have c76b0 : (t483 == t485) = true := beq_iff_eq.mpr c76
         have c76b1 : (t483 != t485) = false := bne_eq_false_iff_eq.mpr c76
         clear c76
         by_cases c77 : t484 = t486
         ·
          rw [if_pos c77] at H
          have c77b0 : (t484 == t486) = true := beq_iff_eq.mpr c77
          have c77b1 : (t484 != t486) = false := bne_eq_false_iff_eq.mpr c77
          clear c77
          replace H := Option.bind_eq_some_iff.mp H
          obtain ⟨t487, A780, H⟩ := H
          replace H : (some t487) = some r := H
          have A78 := Aside0.mk A780
          clear A780
          obtain rfl := Option.some.inj H
          go_wp2_with (first | ((with_reducible refine gate_callee (f := 30) rfl ?_); refine goesL_ (some 52) rfl rfl Tryd.func30 (by kernel_rfl) rfl #[.slice A0 l0.length c0, .int .i64 a1] rfl (by (try simp only [List.map_toArray, List.map_cons, List.map_nil]); first | done | rfl | (simp only [List.length_drop, List.length_take]; rfl)) ?_; (with_reducible refine (calendar_NextWorking.calls kj60 _ _ l0 a1 t479 t480 _ ?side1 ?side2 A70.out).mono ?_); (case side1 => repeat (first | exact (Kd.C_below HR0.out HB.out) | (with_reducible refine Kd.C_alloc ?_ _) | (with_reducible refine Kd.C_drewN ?_ _) | (with_reducible refine Kd.C_drew ?_))); (case side2 => exact HC0.out); rintro e w' ⟨rfl, ⟨nd, rfl⟩⟩; refine ⟨_, rfl, ?_⟩) | ((with_reducible refine gate_callee (f := 31) rfl ?_); refine goesL_ (some 58) rfl rfl Tryd.func31 (by kernel_rfl) rfl #[.slice A0 l0.length c0, .int .i64 a1] rfl (by (try simp only [List.map_toArray, List.map_cons, List.map_nil]); first | done | rfl | (simp only [List.length_drop, List.length_take]; rfl)) ?_; (with_reducible refine (customsref04_NextWorking.calls kj60 _ _ l0 a1 t481 t482 _ ?side1 ?side2 A71.out).mono ?_); (case side1 => repeat (first | exact (Kd.C_below HR0.out (by repeat (first | (with_reducible first | exact HB.out | apply below_alloc | apply pw_below_drewN | apply below_drew1) | exact HB.out))) | (with_reducible refine Kd.C_alloc ?_ _) | (with_reducible refine Kd.C_drewN ?_ _) | (with_reducible refine Kd.C_drew ?_))); (case side2 => exact HC0.out); rintro e w' ⟨rfl, ⟨nd, rfl⟩⟩; refine ⟨_, rfl, ?_⟩) | ((with_reducible refine gate_callee (f := 26) rfl ?_); refine goesL_ (some 65) rfl rfl Tryd.func26 (by kernel_rfl) rfl #[.slice A0 l0.length c0, .int .i64 a1, .int .i64 a2] rfl (by (try simp only [List.map_toArray, List.map_cons, List.map_nil]); first | done | rfl | (simp only [List.length_drop, List.length_take]; rfl)) ?_; (with_reducible refine (calendar_AddWorking.calls kj60 _ _ l0 a1 a2 t483 t484 _ ?side1 ?side2 A72.out).mono ?_); (case side1 => repeat (first | exact (Kd.C_below HR0.out (by repeat (first | (with_reducible first | exact HB.out | apply below_alloc | apply pw_below_drewN | apply below_drew1) | exact HB.out))) | (with_reducible refine Kd.C_alloc ?_ _) | (with_reducible refine Kd.C_drewN ?_ _) | (with_reducible refine Kd.C_drew ?_))); (case side2 => exact HC0.out); rintro e w' ⟨rfl, ⟨nd, rfl⟩⟩; refine ⟨_, rfl, ?_⟩) | ((with_reducible refine gate_callee (f := 32) rfl ?_); refine goesL_ (some 72) rfl rfl Tryd.func32 (by kernel_rfl) rfl #[.slice A0 l0.length c0, .int .i64 a1, .int .i64 a2] rfl (by (try simp only [List.map_toArray, List.map_cons, List.map_nil]); first | done | rfl | (simp only [List.length_drop, List.length_take]; rfl)) ?_; (with_reducible refine (customsref04_AddWorking.calls kj60 _ _ l0 a1 a2 t485 t486 _ ?side1 ?side2 A73.out).mono ?_); (case side1 => repeat (first | exact (Kd.C_below HR0.out (by repeat (first | (with_reducible first | exact HB.out | apply below_alloc | apply pw_below_drewN | apply below_drew1) | exact HB.out))) | (with_reducible refine Kd.C_alloc ?_ _) | (with_reducible refine Kd.C_drewN ?_ _) | (with_reducible refine Kd.C_drew ?_))); (case side2 => exact HC0.out); rintro e w' ⟨rfl, ⟨nd, rfl⟩⟩; refine ⟨_, rfl, ?_⟩) | (go_at_call 17; (with_reducible refine (customslaw04_awake.calls kj60  t487 _ ?side1 A78.out).mono ?_); (case side1 => exact GL_lengths.of_below (by repeat (first | (with_reducible first | exact HB.out | apply below_alloc | apply pw_below_drewN | apply below_drew1) | exact HB.out)) HG_lengths.out); rintro e w79 ⟨rfl, hb⟩; have n0_ := Aside0.mk (below_step (by repeat (first | (with_reducible first | exact HB.out | apply below_alloc | apply pw_below_drewN | apply below_drew1) | exact HB.out)) hb); clear HB; have HB := n0_; clear n0_; (try clear hb); (try clear hb2); (try clear hk); (try clear hi)))
          go_ret
          exact ⟨by first | rfl | (simp [errW_none, errW_some] <;> rfl) | (simp [*, errW_none, errW_some] <;> rfl), by repeat (first | (with_reducible first | exact HB.out | apply below_alloc | apply pw_below_drewN | apply below_drew1) | exact HB.out)⟩
         ·
          rw [if_neg c77] at H
          have c77b0 : (t484 == t486) = false := beq_eq_false_iff_ne.mpr c77
          have c77b1 : (t484 != t486) = true := bne_iff_ne.mpr c77
          obtain rfl := Option.some.inj H
          go_wp2_with (first | ((with_reducible refine gate_callee (f := 30) rfl ?_); refine goesL_ (some 52) rfl rfl Tryd.func30 (by kernel_rfl) rfl #[.slice A0 l0.length c0, .int .i64 a1] rfl (by (try simp only [List.map_toArray, List.map_cons, List.map_nil]); first | done | rfl | (simp only [List.length_drop, List.length_take]; rfl)) ?_; (with_reducible refine (calendar_NextWorking.calls kj60 _ _ l0 a1 t479 t480 _ ?side1 ?side2 A70.out).mono ?_); (case side1 => repeat (first | exact (Kd.C_below HR0.out HB.out) | (with_reducible refine Kd.C_alloc ?_ _) | (with_reducible refine Kd.C_drewN ?_ _) | (with_reducible refine Kd.C_drew ?_))); (case side2 => exact HC0.out); rintro e w' ⟨rfl, ⟨nd, rfl⟩⟩; refine ⟨_, rfl, ?_⟩) | ((with_reducible refine gate_callee (f := 31) rfl ?_); refine goesL_ (some 58) rfl rfl Tryd.func31 (by kernel_rfl) rfl #[.slice A0 l0.length c0, .int .i64 a1] rfl (by (try simp only [List.map_toArray, List.map_cons, List.map_nil]); first | done | rfl | (simp only [List.length_drop, List.length_take]; rfl)) ?_; (with_reducible refine (customsref04_NextWorking.calls kj60 _ _ l0 a1 t481 t482 _ ?side1 ?side2 A71.out).mono ?_); (case side1 => repeat (first | exact (Kd.C_below HR0.out (by repeat (first | (with_reducible first | exact HB.out | apply below_alloc | apply pw_below_drewN | apply below_drew1) | exact HB.out))) | (with_reducible refine Kd.C_alloc ?_ _) | (with_reducible refine Kd.C_drewN ?_ _) | (with_reducible refine Kd.C_drew ?_))); (case side2 => exact HC0.out); rintro e w' ⟨rfl, ⟨nd, rfl⟩⟩; refine ⟨_, rfl, ?_⟩) | ((with_reducible refine gate_callee (f := 26) rfl ?_); refine goesL_ (some 65) rfl rfl Tryd.func26 (by kernel_rfl) rfl #[.slice A0 l0.length c0, .int .i64 a1, .int .i64 a2] rfl (by (try simp only [List.map_toArray, List.map_cons, List.map_nil]); first | done | rfl | (simp only [List.length_drop, List.length_take]; rfl)) ?_; (with_reducible refine (calendar_AddWorking.calls kj60 _ _ l0 a1 a2 t483 t484 _ ?side1 ?side2 A72.out).mono ?_); (case side1 => repeat (first | exact (Kd.C_below HR0.out (by repeat (first | (with_reducible first | exact HB.out | apply below_alloc | apply pw_below_drewN | apply below_drew1) | exact HB.out))) | (with_reducible refine Kd.C_alloc ?_ _) | (with_reducible refine Kd.C_drewN ?_ _) | (with_reducible refine Kd.C_drew ?_))); (case side2 => exact HC0.out); rintro e w' ⟨rfl, ⟨nd, rfl⟩⟩; refine ⟨_, rfl, ?_⟩) | ((with_reducible refine gate_callee (f := 32) rfl ?_); refine goesL_ (some 72) rfl rfl Tryd.func32 (by kernel_rfl) rfl #[.slice A0 l0.length c0, .int .i64 a1, .int .i64 a2] rfl (by (try simp only [List.map_toArray, List.map_cons, List.map_nil]); first | done | rfl | (simp only [List.length_drop, List.length_take]; rfl)) ?_; (with_reducible refine (customsref04_AddWorking.calls kj60 _ _ l0 a1 a2 t485 t486 _ ?side1 ?side2 A73.out).mono ?_); (case side1 => repeat (first | exact (Kd.C_below HR0.out (by repeat (first | (with_reducible first | exact HB.out | apply below_alloc | apply pw_below_drewN | apply below_drew1) | exact HB.out))) | (with_reducible refine Kd.C_alloc ?_ _) | (with_reducible refine Kd.C_drewN ?_ _) | (with_reducible refine Kd.C_drew ?_))); (case side2 => exact HC0.out); rintro e w' ⟨rfl, ⟨nd, rfl⟩⟩; refine ⟨_, rfl, ?_⟩))
          go_ret
          exact ⟨by first | rfl | (simp [errW_none, errW_some] <;> rfl) | (simp [*, errW_none, errW_some] <;> rfl), by repeat (first | (with_reducible first | exact HB.out | apply below_alloc | apply pw_below_drewN | apply below_drew1) | exact HB.out)⟩
        ·
         rw [if_neg c76] at H
         have c76b0 : (t483 == t485) = false := beq_eq_false_iff_ne.mpr c76
         have c76b1 : (t483 != t485) = true := bne_iff_ne.mpr c76
         obtain rfl := Option.some.inj H
         go_wp2_with (first | ((with_reducible refine gate_callee (f := 30) rfl ?_); refine goesL_ (some 52) rfl rfl Tryd.func30 (by kernel_rfl) rfl #[.slice A0 l0.length c0, .int .i64 a1] rfl (by (try simp only [List.map_toArray, List.map_cons, List.map_nil]); first | done | rfl | (simp only [List.length_drop, List.length_take]; rfl)) ?_; (with_reducible refine (calendar_NextWorking.calls kj60 _ _ l0 a1 t479 t480 _ ?side1 ?side2 A70.out).mono ?_); (case side1 => repeat (first | exact (Kd.C_below HR0.out HB.out) | (with_reducible refine Kd.C_alloc ?_ _) | (with_reducible refine Kd.C_drewN ?_ _) | (with_reducible refine Kd.C_drew ?_))); (case side2 => exact HC0.out); rintro e w' ⟨rfl, ⟨nd, rfl⟩⟩; refine ⟨_, rfl, ?_⟩) | ((with_reducible refine gate_callee (f := 31) rfl ?_); refine goesL_ (some 58) rfl rfl Tryd.func31 (by kernel_rfl) rfl #[.slice A0 l0.length c0, .int .i64 a1] rfl (by (try simp only [List.map_toArray, List.map_cons, List.map_nil]); first | done | rfl | (simp only [List.length_drop, List.length_take]; rfl)) ?_; (with_reducible refine (customsref04_NextWorking.calls kj60 _ _ l0 a1 t481 t482 _ ?side1 ?side2 A71.out).mono ?_); (case side1 => repeat (first | exact (Kd.C_below HR0.out (by repeat (first | (with_reducible first | exact HB.out | apply below_alloc | apply pw_below_drewN | apply below_drew1) | exact HB.out))) | (with_reducible refine Kd.C_alloc ?_ _) | (with_reducible refine Kd.C_drewN ?_ _) | (with_reducible refine Kd.C_drew ?_))); (case side2 => exact HC0.out); rintro e w' ⟨rfl, ⟨nd, rfl⟩⟩; refine ⟨_, rfl, ?_⟩) | ((with_reducible refine gate_callee (f := 26) rfl ?_); refine goesL_ (some 65) rfl rfl Tryd.func26 (by kernel_rfl) rfl #[.slice A0 l0.length c0, .int .i64 a1, .int .i64 a2] rfl (by (try simp only [List.map_toArray, List.map_cons, List.map_nil]); first | done | rfl | (simp only [List.length_drop, List.length_take]; rfl)) ?_; (with_reducible refine (calendar_AddWorking.calls kj60 _ _ l0 a1 a2 t483 t484 _ ?side1 ?side2 A72.out).mono ?_); (case side1 => repeat (first | exact (Kd.C_below HR0.out (by repeat (first | (with_reducible first | exact HB.out | apply below_alloc | apply pw_below_drewN | apply below_drew1) | exact HB.out))) | (with_reducible refine Kd.C_alloc ?_ _) | (with_reducible refine Kd.C_drewN ?_ _) | (with_reducible refine Kd.C_drew ?_))); (case side2 => exact HC0.out); rintro e w' ⟨rfl, ⟨nd, rfl⟩⟩; refine ⟨_, rfl, ?_⟩) | ((with_reducible refine gate_callee (f := 32) rfl ?_); refine goesL_ (some 72) rfl rfl Tryd.func32 (by kernel_rfl) rfl #[.slice A0 l0.length c0, .int .i64 a1, .int .i64 a2] rfl (by (try simp only [List.map_toArray, List.map_cons, List.map_nil]); first | done | rfl | (simp only [List.length_drop, List.length_take]; rfl)) ?_; (with_reducible refine (customsref04_AddWorking.calls kj60 _ _ l0 a1 a2 t485 t486 _ ?side1 ?side2 A73.out).mono ?_); (case side1 => repeat (first | exact (Kd.C_below HR0.out (by repeat (first | (with_reducible first | exact HB.out | apply below_alloc | apply pw_below_drewN | apply below_drew1) | exact HB.out))) | (with_reducible refine Kd.C_alloc ?_ _) | (with_reducible refine Kd.C_drewN ?_ _) | (with_reducible refine Kd.C_drew ?_))); (case side2 => exact HC0.out); rintro e w' ⟨rfl, ⟨nd, rfl⟩⟩; refine ⟨_, rfl, ?_⟩))
         go_ret
         exact ⟨by first | rfl | (simp [errW_none, errW_some] <;> rfl) | (simp [*, errW_none, errW_some] <;> rfl), by repeat (first | (with_reducible first | exact HB.out | apply below_alloc | apply pw_below_drewN | apply below_drew1) | exact HB.out)⟩
       ·
        rw [if_neg c75] at H
        have c75b0 : (t480 == t482) = false := beq_eq_false_iff_ne.mpr c75
        have c75b1 : (t480 != t482) = true := bne_iff_ne.mpr c75
        obtain rfl := Option.some.inj H
        go_wp2_with (first | ((with_reducible refine gate_callee (f := 30) rfl ?_); refine goesL_ (some 52) rfl rfl Tryd.func30 (by kernel_rfl) rfl #[.slice A0 l0.length c0, .int .i64 a1] rfl (by (try simp only [List.map_toArray, List.map_cons, List.map_nil]); first | done | rfl | (simp only [List.length_drop, List.length_take]; rfl)) ?_; (with_reducible refine (calendar_NextWorking.calls kj60 _ _ l0 a1 t479 t480 _ ?side1 ?side2 A70.out).mono ?_); (case side1 => repeat (first | exact (Kd.C_below HR0.out HB.out) | (with_reducible refine Kd.C_alloc ?_ _) | (with_reducible refine Kd.C_drewN ?_ _) | (with_reducible refine Kd.C_drew ?_))); (case side2 => exact HC0.out); rintro e w' ⟨rfl, ⟨nd, rfl⟩⟩; refine ⟨_, rfl, ?_⟩) | ((with_reducible refine gate_callee (f := 31) rfl ?_); refine goesL_ (some 58) rfl rfl Tryd.func31 (by kernel_rfl) rfl #[.slice A0 l0.length c0, .int .i64 a1] rfl (by (try simp only [List.map_toArray, List.map_cons, List.map_nil]); first | done | rfl | (simp only [List.length_drop, List.length_take]; rfl)) ?_; (with_reducible refine (customsref04_NextWorking.calls kj60 _ _ l0 a1 t481 t482 _ ?side1 ?side2 A71.out).mono ?_); (case side1 => repeat (first | exact (Kd.C_below HR0.out (by repeat (first | (with_reducible first | exact HB.out | apply below_alloc | apply pw_below_drewN | apply below_drew1) | exact HB.out))) | (with_reducible refine Kd.C_alloc ?_ _) | (with_reducible refine Kd.C_drewN ?_ _) | (with_reducible refine Kd.C_drew ?_))); (case side2 => exact HC0.out); rintro e w' ⟨rfl, ⟨nd, rfl⟩⟩; refine ⟨_, rfl, ?_⟩) | ((with_reducible refine gate_callee (f := 26) rfl ?_); refine goesL_ (some 65) rfl rfl Tryd.func26 (by kernel_rfl) rfl #[.slice A0 l0.length c0, .int .i64 a1, .int .i64 a2] rfl (by (try simp only [List.map_toArray, List.map_cons, List.map_nil]); first | done | rfl | (simp only [List.length_drop, List.length_take]; rfl)) ?_; (with_reducible refine (calendar_AddWorking.calls kj60 _ _ l0 a1 a2 t483 t484 _ ?side1 ?side2 A72.out).mono ?_); (case side1 => repeat (first | exact (Kd.C_below HR0.out (by repeat (first | (with_reducible first | exact HB.out | apply below_alloc | apply pw_below_drewN | apply below_drew1) | exact HB.out))) | (with_reducible refine Kd.C_alloc ?_ _) | (with_reducible refine Kd.C_drewN ?_ _) | (with_reducible refine Kd.C_drew ?_))); (case side2 => exact HC0.out); rintro e w' ⟨rfl, ⟨nd, rfl⟩⟩; refine ⟨_, rfl, ?_⟩) | ((with_reducible refine gate_callee (f := 32) rfl ?_); refine goesL_ (some 72) rfl rfl Tryd.func32 (by kernel_rfl) rfl #[.slice A0 l0.length c0, .int .i64 a1, .int .i64 a2] rfl (by (try simp only [List.map_toArray, List.map_cons, List.map_nil]); first | done | rfl | (simp only [List.length_drop, List.length_take]; rfl)) ?_; (with_reducible refine (customsref04_AddWorking.calls kj60 _ _ l0 a1 a2 t485 t486 _ ?side1 ?side2 A73.out).mono ?_); (case side1 => repeat (first | exact (Kd.C_below HR0.out (by repeat (first | (with_reducible first | exact HB.out | apply below_alloc | apply pw_below_drewN | apply below_drew1) | exact HB.out))) | (with_reducible refine Kd.C_alloc ?_ _) | (with_reducible refine Kd.C_drewN ?_ _) | (with_reducible refine Kd.C_drew ?_))); (case side2 => exact HC0.out); rintro e w' ⟨rfl, ⟨nd, rfl⟩⟩; refine ⟨_, rfl, ?_⟩))
        go_ret
        exact ⟨by first | rfl | (simp [errW_none, errW_some] <;> rfl) | (simp [*, errW_none, errW_some] <;> rfl), by repeat (first | (with_reducible first | exact HB.out | apply below_alloc | apply pw_below_drewN | apply below_drew1) | exact HB.out)⟩
      ·
       rw [if_neg c74] at H
       have c74b0 : (t479 == t481) = false := beq_eq_false_iff_ne.mpr c74
       have c74b1 : (t479 != t481) = true := bne_iff_ne.mpr c74
       obtain rfl := Option.some.inj H
       go_wp2_with (first | ((with_reducible refine gate_callee (f := 30) rfl ?_); refine goesL_ (some 52) rfl rfl Tryd.func30 (by kernel_rfl) rfl #[.slice A0 l0.length c0, .int .i64 a1] rfl (by (try simp only [List.map_toArray, List.map_cons, List.map_nil]); first | done | rfl | (simp only [List.length_drop, List.length_take]; rfl)) ?_; (with_reducible refine (calendar_NextWorking.calls kj60 _ _ l0 a1 t479 t480 _ ?side1 ?side2 A70.out).mono ?_); (case side1 => repeat (first | exact (Kd.C_below HR0.out HB.out) | (with_reducible refine Kd.C_alloc ?_ _) | (with_reducible refine Kd.C_drewN ?_ _) | (with_reducible refine Kd.C_drew ?_))); (case side2 => exact HC0.out); rintro e w' ⟨rfl, ⟨nd, rfl⟩⟩; refine ⟨_, rfl, ?_⟩) | ((with_reducible refine gate_callee (f := 31) rfl ?_); refine goesL_ (some 58) rfl rfl Tryd.func31 (by kernel_rfl) rfl #[.slice A0 l0.length c0, .int .i64 a1] rfl (by (try simp only [List.map_toArray, List.map_cons, List.map_nil]); first | done | rfl | (simp only [List.length_drop, List.length_take]; rfl)) ?_; (with_reducible refine (customsref04_NextWorking.calls kj60 _ _ l0 a1 t481 t482 _ ?side1 ?side2 A71.out).mono ?_); (case side1 => repeat (first | exact (Kd.C_below HR0.out (by repeat (first | (with_reducible first | exact HB.out | apply below_alloc | apply pw_below_drewN | apply below_drew1) | exact HB.out))) | (with_reducible refine Kd.C_alloc ?_ _) | (with_reducible refine Kd.C_drewN ?_ _) | (with_reducible refine Kd.C_drew ?_))); (case side2 => exact HC0.out); rintro e w' ⟨rfl, ⟨nd, rfl⟩⟩; refine ⟨_, rfl, ?_⟩) | ((with_reducible refine gate_callee (f := 26) rfl ?_); refine goesL_ (some 65) rfl rfl Tryd.func26 (by kernel_rfl) rfl #[.slice A0 l0.length c0, .int .i64 a1, .int .i64 a2] rfl (by (try simp only [List.map_toArray, List.map_cons, List.map_nil]); first | done | rfl | (simp only [List.length_drop, List.length_take]; rfl)) ?_; (with_reducible refine (calendar_AddWorking.calls kj60 _ _ l0 a1 a2 t483 t484 _ ?side1 ?side2 A72.out).mono ?_); (case side1 => repeat (first | exact (Kd.C_below HR0.out (by repeat (first | (with_reducible first | exact HB.out | apply below_alloc | apply pw_below_drewN | apply below_drew1) | exact HB.out))) | (with_reducible refine Kd.C_alloc ?_ _) | (with_reducible refine Kd.C_drewN ?_ _) | (with_reducible refine Kd.C_drew ?_))); (case side2 => exact HC0.out); rintro e w' ⟨rfl, ⟨nd, rfl⟩⟩; refine ⟨_, rfl, ?_⟩) | ((with_reducible refine gate_callee (f := 32) rfl ?_); refine goesL_ (some 72) rfl rfl Tryd.func32 (by kernel_rfl) rfl #[.slice A0 l0.length c0, .int .i64 a1, .int .i64 a2] rfl (by (try simp only [List.map_toArray, List.map_cons, List.map_nil]); first | done | rfl | (simp only [List.length_drop, List.length_take]; rfl)) ?_; (with_reducible refine (customsref04_AddWorking.calls kj60 _ _ l0 a1 a2 t485 t486 _ ?side1 ?side2 A73.out).mono ?_); (case side1 => repeat (first | exact (Kd.C_below HR0.out (by repeat (first | (with_reducible first | exact HB.out | apply below_alloc | apply pw_below_drewN | apply below_drew1) | exact HB.out))) | (with_reducible refine Kd.C_alloc ?_ _) | (with_reducible refine Kd.C_drewN ?_ _) | (with_reducible refine Kd.C_drew ?_))); (case side2 => exact HC0.out); rintro e w' ⟨rfl, ⟨nd, rfl⟩⟩; refine ⟨_, rfl, ?_⟩))
       go_ret
       exact ⟨by first | rfl | (simp [errW_none, errW_some] <;> rfl) | (simp [*, errW_none, errW_some] <;> rfl), by repeat (first | (with_reducible first | exact HB.out | apply below_alloc | apply pw_below_drewN | apply below_drew1) | exact HB.out)⟩
  ·
   replace c60 := Bool.eq_false_iff.mpr c60
   subst c60
   have H1 : ((customsmade_Holidays.f k l0).bind fun t469 => ((customsmade_Day.f a1).bind fun t472 => ((customsmade_Within.f a2 60).bind fun t473 => ((calendar_Valid.f k t469).bind fun t488 => ((customsref04_Valid.f k t469).bind fun t489 => (if t488 = t489 then ((customsref04_Valid.f k t469).bind fun t490 => (if t490 = 0 then ((calendar_Working.f k t469 t472).bind fun t491 => ((customsref04_Working.f k t469 t472).bind fun t492 => (customslaw04_CalendarWorking.j3 k t469 t472 t473 (t491 != t492)))) else (customslaw04_CalendarWorking.j3 k t469 t472 t473 false))) else (customslaw04_CalendarWorking.j3 k t469 t472 t473 true))))))) = some r := by rw [if_neg (show ¬ (false = true) by decide)] at H; exact H
   clear H
   have H := H1
   clear H1
   replace H := Option.bind_eq_some_iff.mp H
   obtain ⟨t469, A800, H⟩ := H
   replace H : ((customsmade_Day.f a1).bind fun t472 => ((customsmade_Within.f a2 60).bind fun t473 => ((calendar_Valid.f k t469).bind fun t488 => ((customsref04_Valid.f k t469).bind fun t489 => (if t488 = t489 then ((customsref04_Valid.f k t469).bind fun t490 => (if t490 = 0 then ((calendar_Working.f k t469 t472).bind fun t491 => ((customsref04_Working.f k t469 t472).bind fun t492 => (customslaw04_CalendarWorking.j3 k t469 t472 t473 (t491 != t492)))) else (customslaw04_CalendarWorking.j3 k t469 t472 t473 false))) else (customslaw04_CalendarWorking.j3 k t469 t472 t473 true)))))) = some r := H
   have A80 := Aside0.mk A800
   clear A800
   replace H := Option.bind_eq_some_iff.mp H
   obtain ⟨t472, A810, H⟩ := H
   replace H : ((customsmade_Within.f a2 60).bind fun t473 => ((calendar_Valid.f k t469).bind fun t488 => ((customsref04_Valid.f k t469).bind fun t489 => (if t488 = t489 then ((customsref04_Valid.f k t469).bind fun t490 => (if t490 = 0 then ((calendar_Working.f k t469 t472).bind fun t491 => ((customsref04_Working.f k t469 t472).bind fun t492 => (customslaw04_CalendarWorking.j3 k t469 t472 t473 (t491 != t492)))) else (customslaw04_CalendarWorking.j3 k t469 t472 t473 false))) else (customslaw04_CalendarWorking.j3 k t469 t472 t473 true))))) = some r := H
   have A81 := Aside0.mk A810
   clear A810
   replace H := Option.bind_eq_some_iff.mp H
   obtain ⟨t473, A820, H⟩ := H
   replace H : ((calendar_Valid.f k t469).bind fun t488 => ((customsref04_Valid.f k t469).bind fun t489 => (if t488 = t489 then ((customsref04_Valid.f k t469).bind fun t490 => (if t490 = 0 then ((calendar_Working.f k t469 t472).bind fun t491 => ((customsref04_Working.f k t469 t472).bind fun t492 => (customslaw04_CalendarWorking.j3 k t469 t472 t473 (t491 != t492)))) else (customslaw04_CalendarWorking.j3 k t469 t472 t473 false))) else (customslaw04_CalendarWorking.j3 k t469 t472 t473 true)))) = some r := H
   have A82 := Aside0.mk A820
   clear A820
   have HC83 := Aside0.mk H
   clear H
   go_enter Tryd.func10, Tryd.ntmps10
   go_upto_region 5 with (first | ((with_reducible refine gate_callee (f := 22) rfl ?_); refine goesL_ (some 25) rfl rfl Tryd.func22 (by kernel_rfl) rfl #[.slice A0 l0.length c0] rfl (by (try simp only [List.map_toArray, List.map_cons, List.map_nil]); first | done | rfl | (simp only [List.length_drop, List.length_take]; rfl)) ?_; (with_reducible refine (customsmade_Holidays.calls k _ _ l0 t469 _ ?side1 ?side2 A80.out).mono ?_); (case side1 => repeat (first | exact HR0.out | (with_reducible refine Kd.C_alloc ?_ _) | (with_reducible refine Kd.C_drewN ?_ _) | (with_reducible refine Kd.C_drew ?_))); (case side2 => exact HC0.out); rintro e w84 ⟨v470, rfl, ho0, hb⟩; refine ⟨_, rfl, ?_⟩; have n0_ := Aside0.mk (Kd.R_lower ho0 (below_size (by repeat (first | (with_reducible first | exact HB.out | apply below_alloc | apply pw_below_drewN | apply below_drew1) | exact HB.out)))); have n1_ := Aside0.mk (below_step (by repeat (first | (with_reducible first | exact HB.out | apply below_alloc | apply pw_below_drewN | apply below_drew1) | exact HB.out)) hb); clear HB; have HO471 := n0_; have HB := n1_; clear n0_ n1_; (try clear hb); (try clear hb2); (try clear hk); (try clear hi); (try clear ho0)) | ((with_reducible refine gate_callee (f := 11) rfl ?_); refine goesL_ (some 27) rfl rfl Tryd.func11 (by kernel_rfl) rfl #[.int .i64 a1] rfl (by (try simp only [List.map_toArray, List.map_cons, List.map_nil]); first | done | rfl | (simp only [List.length_drop, List.length_take]; rfl)) ?_; (with_reducible refine (customsmade_Day.calls a1 t472 _ A81.out).mono ?_); rintro e w' ⟨rfl, ⟨nd, rfl⟩⟩; refine ⟨_, rfl, ?_⟩) | ((with_reducible refine gate_callee (f := 18) rfl ?_); refine goesL_ (some 29) rfl rfl Tryd.func18 (by kernel_rfl) rfl #[.int .i64 a2, .int .i64 60] rfl (by (try simp only [List.map_toArray, List.map_cons, List.map_nil]); first | done | rfl | (simp only [List.length_drop, List.length_take]; rfl)) ?_; (with_reducible refine (customsmade_Within.calls a2 60 t473 _ A82.out).mono ?_); rintro e w' ⟨rfl, ⟨nd, rfl⟩⟩; refine ⟨_, rfl, ?_⟩))
   (try simp only [Act.put, List.setIfInBounds_toArray, List.set_cons_zero, List.set_cons_succ])
   go_cut [48] (fun v48 wc => ∃ (kq : Nat) (x48_82 : Bool), v48 = .bool x48_82 ∧ Aside0 (customslaw04_CalendarWorking.j3 kq t469 t472 t473 x48_82 = some r) ∧ Aside0 (kq ≤ k) ∧ Aside0 (Kd.R (Kd.int .i64) 3 wc w.heap.size (fun _ => True) v470 t469) ∧ Aside0 (Below w.heap.size w wc))
   case first =>
    have H := HC83.out
    clear HC83
    replace H := Option.bind_eq_some_iff.mp H
    obtain ⟨t488, A850, H⟩ := H
    replace H : ((customsref04_Valid.f k t469).bind fun t489 => (if t488 = t489 then ((customsref04_Valid.f k t469).bind fun t490 => (if t490 = 0 then ((calendar_Working.f k t469 t472).bind fun t491 => ((customsref04_Working.f k t469 t472).bind fun t492 => (customslaw04_CalendarWorking.j3 k t469 t472 t473 (t491 != t492)))) else (customslaw04_CalendarWorking.j3 k t469 t472 t473 false))) else (customslaw04_CalendarWorking.j3 k t469 t472 t473 true))) = some r := H
    have A85 := Aside0.mk A850
    clear A850
    replace H := Option.bind_eq_some_iff.mp H
    obtain ⟨t489, A860, H⟩ := H
    replace H : (if t488 = t489 then ((customsref04_Valid.f k t469).bind fun t490 => (if t490 = 0 then ((calendar_Working.f k t469 t472).bind fun t491 => ((customsref04_Working.f k t469 t472).bind fun t492 => (customslaw04_CalendarWorking.j3 k t469 t472 t473 (t491 != t492)))) else (customslaw04_CalendarWorking.j3 k t469 t472 t473 false))) else (customslaw04_CalendarWorking.j3 k t469 t472 t473 true)) = some r := H
    have A86 := Aside0.mk A860
    clear A860
    by_cases c87 : t488 = t489
    ·
     rw [if_pos c87] at H
     have c87b0 : (t488 == t489) = true := beq_iff_eq.mpr c87
     have c87b1 : (t488 != t489) = false := bne_eq_false_iff_eq.mpr c87
     clear c87
     (first | rw [c87b0] | (simp only [i64_w, i32_w]; rw [c87b0]) | skip)
     replace H := Option.bind_eq_some_iff.mp H
     obtain ⟨t490, A880, H⟩ := H
     replace H : (if t490 = 0 then ((calendar_Working.f k t469 t472).bind fun t491 => ((customsref04_Working.f k t469 t472).bind fun t492 => (customslaw04_CalendarWorking.j3 k t469 t472 t473 (t491 != t492)))) else (customslaw04_CalendarWorking.j3 k t469 t472 t473 false)) = some r := H
     have A88 := Aside0.mk A880
     clear A880
     by_cases c89 : t490 = 0
     ·
      rw [if_pos c89] at H
      have c89b0 : (t490 == 0) = true := beq_iff_eq.mpr c89
      have c89b1 : (t490 != 0) = false := bne_eq_false_iff_eq.mpr c89
      clear c89
      replace H := Option.bind_eq_some_iff.mp H
      obtain ⟨t491, A900, H⟩ := H
      replace H : ((customsref04_Working.f k t469 t472).bind fun t492 => (customslaw04_CalendarWorking.j3 k t469 t472 t473 (t491 != t492))) = some r := H
      have A90 := Aside0.mk A900
      clear A900
      replace H := Option.bind_eq_some_iff.mp H
      obtain ⟨t492, A910, H⟩ := H
      replace H : (customslaw04_CalendarWorking.j3 k t469 t472 t473 (t491 != t492)) = some r := H
      have A91 := Aside0.mk A910
      clear A910
      have H' := Aside0.mk H
      clear H
      obtain ⟨Ao92, co92, eo92⟩ := Kd.R_slice HO471.out
      subst eo92
      go_wp2_with (first | ((with_reducible refine gate_callee (f := 27) rfl ?_); refine goesL_ (some 31) rfl rfl Tryd.func27 (by kernel_rfl) rfl #[.slice Ao92 t469.length co92] rfl (by (try simp only [List.map_toArray, List.map_cons, List.map_nil]); first | done | rfl | (simp only [List.length_drop, List.length_take]; rfl)) ?_; (with_reducible refine (calendar_Valid.calls k _ _ t469 t488 _ ?side1 ?side2 A85.out).mono ?_); (case side1 => repeat (first | exact (Kd.R_reads' HO471.out).2.2 | (with_reducible refine Kd.C_alloc ?_ _) | (with_reducible refine Kd.C_drewN ?_ _) | (with_reducible refine Kd.C_drew ?_))); (case side2 => exact (Kd.R_reads' HO471.out).2.1); rintro e w' ⟨rfl, ⟨nd, rfl⟩⟩; refine ⟨_, rfl, ?_⟩) | ((with_reducible refine gate_callee (f := 28) rfl ?_); refine goesL_ (some 33) rfl rfl Tryd.func28 (by kernel_rfl) rfl #[.slice Ao92 t469.length co92] rfl (by (try simp only [List.map_toArray, List.map_cons, List.map_nil]); first | done | rfl | (simp only [List.length_drop, List.length_take]; rfl)) ?_; (with_reducible refine (customsref04_Valid.calls k _ _ t469 t489 _ ?side1 ?side2 A86.out).mono ?_); (case side1 => repeat (first | exact (Kd.R_reads' HO471.out).2.2 | (with_reducible refine Kd.C_alloc ?_ _) | (with_reducible refine Kd.C_drewN ?_ _) | (with_reducible refine Kd.C_drew ?_))); (case side2 => exact (Kd.R_reads' HO471.out).2.1); rintro e w' ⟨rfl, ⟨nd, rfl⟩⟩; refine ⟨_, rfl, ?_⟩) | (go_at_call 28; (with_reducible refine (customsref04_Valid.calls k _ _ t469 t490 _ ?side1 ?side2 A88.out).mono ?_); (case side1 => repeat (first | exact (Kd.R_reads' HO471.out).2.2 | (with_reducible refine Kd.C_alloc ?_ _) | (with_reducible refine Kd.C_drewN ?_ _) | (with_reducible refine Kd.C_drew ?_))); (case side2 => exact (Kd.R_reads' HO471.out).2.1); rintro e w' ⟨rfl, ⟨nd, rfl⟩⟩) | (go_at_call 25; (with_reducible refine (calendar_Working.calls k _ _ t469 t472 t491 _ ?side1 ?side2 A90.out).mono ?_); (case side1 => repeat (first | exact (Kd.R_reads' HO471.out).2.2 | (with_reducible refine Kd.C_alloc ?_ _) | (with_reducible refine Kd.C_drewN ?_ _) | (with_reducible refine Kd.C_drew ?_))); (case side2 => exact (Kd.R_reads' HO471.out).2.1); rintro e w' ⟨rfl, ⟨nd, rfl⟩⟩) | (go_at_call 29; (with_reducible refine (customsref04_Working.calls k _ _ t469 t472 t492 _ ?side1 ?side2 A91.out).mono ?_); (case side1 => repeat (first | exact (Kd.R_reads' HO471.out).2.2 | (with_reducible refine Kd.C_alloc ?_ _) | (with_reducible refine Kd.C_drewN ?_ _) | (with_reducible refine Kd.C_drew ?_))); (case side2 => exact (Kd.R_reads' HO471.out).2.1); rintro e w' ⟨rfl, ⟨nd, rfl⟩⟩))
      go_meet
      case rel => exact ⟨_, ((t491 != t492)), (by first | rfl | (simp; done) | (simp [*]; done)), H', ⟨by first | omega | exact Nat.le_refl _⟩, ⟨by (with_reducible repeat (first | apply Kd.R_alloc | apply Kd.R_drewN | apply Kd.R_drew)); exact HO471.out⟩, ⟨by repeat (first | (with_reducible first | exact HB.out | apply below_alloc | apply pw_below_drewN | apply below_drew1) | exact HB.out)⟩⟩
     ·
      rw [if_neg c89] at H
      have c89b0 : (t490 == 0) = false := beq_eq_false_iff_ne.mpr c89
      have c89b1 : (t490 != 0) = true := bne_iff_ne.mpr c89
      have H' := Aside0.mk H
      clear H
      obtain ⟨Ao93, co93, eo93⟩ := Kd.R_slice HO471.out
      subst eo93
      go_wp2_with (first | ((with_reducible refine gate_callee (f := 27) rfl ?_); refine goesL_ (some 31) rfl rfl Tryd.func27 (by kernel_rfl) rfl #[.slice Ao93 t469.length co93] rfl (by (try simp only [List.map_toArray, List.map_cons, List.map_nil]); first | done | rfl | (simp only [List.length_drop, List.length_take]; rfl)) ?_; (with_reducible refine (calendar_Valid.calls k _ _ t469 t488 _ ?side1 ?side2 A85.out).mono ?_); (case side1 => repeat (first | exact (Kd.R_reads' HO471.out).2.2 | (with_reducible refine Kd.C_alloc ?_ _) | (with_reducible refine Kd.C_drewN ?_ _) | (with_reducible refine Kd.C_drew ?_))); (case side2 => exact (Kd.R_reads' HO471.out).2.1); rintro e w' ⟨rfl, ⟨nd, rfl⟩⟩; refine ⟨_, rfl, ?_⟩) | ((with_reducible refine gate_callee (f := 28) rfl ?_); refine goesL_ (some 33) rfl rfl Tryd.func28 (by kernel_rfl) rfl #[.slice Ao93 t469.length co93] rfl (by (try simp only [List.map_toArray, List.map_cons, List.map_nil]); first | done | rfl | (simp only [List.length_drop, List.length_take]; rfl)) ?_; (with_reducible refine (customsref04_Valid.calls k _ _ t469 t489 _ ?side1 ?side2 A86.out).mono ?_); (case side1 => repeat (first | exact (Kd.R_reads' HO471.out).2.2 | (with_reducible refine Kd.C_alloc ?_ _) | (with_reducible refine Kd.C_drewN ?_ _) | (with_reducible refine Kd.C_drew ?_))); (case side2 => exact (Kd.R_reads' HO471.out).2.1); rintro e w' ⟨rfl, ⟨nd, rfl⟩⟩; refine ⟨_, rfl, ?_⟩) | (go_at_call 28; (with_reducible refine (customsref04_Valid.calls k _ _ t469 t490 _ ?side1 ?side2 A88.out).mono ?_); (case side1 => repeat (first | exact (Kd.R_reads' HO471.out).2.2 | (with_reducible refine Kd.C_alloc ?_ _) | (with_reducible refine Kd.C_drewN ?_ _) | (with_reducible refine Kd.C_drew ?_))); (case side2 => exact (Kd.R_reads' HO471.out).2.1); rintro e w' ⟨rfl, ⟨nd, rfl⟩⟩))
      go_meet
      case rel => exact ⟨_, (false), (by first | rfl | (simp; done) | (simp [*]; done)), H', ⟨by first | omega | exact Nat.le_refl _⟩, ⟨by (with_reducible repeat (first | apply Kd.R_alloc | apply Kd.R_drewN | apply Kd.R_drew)); exact HO471.out⟩, ⟨by repeat (first | (with_reducible first | exact HB.out | apply below_alloc | apply pw_below_drewN | apply below_drew1) | exact HB.out)⟩⟩
    ·
     rw [if_neg c87] at H
     have c87b0 : (t488 == t489) = false := beq_eq_false_iff_ne.mpr c87
     have c87b1 : (t488 != t489) = true := bne_iff_ne.mpr c87
     (first | rw [c87b0] | (simp only [i64_w, i32_w]; rw [c87b0]) | skip)
     have H' := Aside0.mk H
     clear H
     obtain ⟨Ao94, co94, eo94⟩ := Kd.R_slice HO471.out
     subst eo94
     go_wp2_with (first | ((with_reducible refine gate_callee (f := 27) rfl ?_); refine goesL_ (some 31) rfl rfl Tryd.func27 (by kernel_rfl) rfl #[.slice Ao94 t469.length co94] rfl (by (try simp only [List.map_toArray, List.map_cons, List.map_nil]); first | done | rfl | (simp only [List.length_drop, List.length_take]; rfl)) ?_; (with_reducible refine (calendar_Valid.calls k _ _ t469 t488 _ ?side1 ?side2 A85.out).mono ?_); (case side1 => repeat (first | exact (Kd.R_reads' HO471.out).2.2 | (with_reducible refine Kd.C_alloc ?_ _) | (with_reducible refine Kd.C_drewN ?_ _) | (with_reducible refine Kd.C_drew ?_))); (case side2 => exact (Kd.R_reads' HO471.out).2.1); rintro e w' ⟨rfl, ⟨nd, rfl⟩⟩; refine ⟨_, rfl, ?_⟩) | ((with_reducible refine gate_callee (f := 28) rfl ?_); refine goesL_ (some 33) rfl rfl Tryd.func28 (by kernel_rfl) rfl #[.slice Ao94 t469.length co94] rfl (by (try simp only [List.map_toArray, List.map_cons, List.map_nil]); first | done | rfl | (simp only [List.length_drop, List.length_take]; rfl)) ?_; (with_reducible refine (customsref04_Valid.calls k _ _ t469 t489 _ ?side1 ?side2 A86.out).mono ?_); (case side1 => repeat (first | exact (Kd.R_reads' HO471.out).2.2 | (with_reducible refine Kd.C_alloc ?_ _) | (with_reducible refine Kd.C_drewN ?_ _) | (with_reducible refine Kd.C_drew ?_))); (case side2 => exact (Kd.R_reads' HO471.out).2.1); rintro e w' ⟨rfl, ⟨nd, rfl⟩⟩; refine ⟨_, rfl, ?_⟩))
     go_meet
     case rel => exact ⟨_, (true), (by first | rfl | (simp; done) | (simp [*]; done)), H', ⟨by first | omega | exact Nat.le_refl _⟩, ⟨by (with_reducible repeat (first | apply Kd.R_alloc | apply Kd.R_drewN | apply Kd.R_drew)); exact HO471.out⟩, ⟨by repeat (first | (with_reducible first | exact HB.out | apply below_alloc | apply pw_below_drewN | apply below_drew1) | exact HB.out)⟩⟩
   case rest =>
    clear HC83
    try clear c1
    try clear c2
    try clear p2
    try clear c3
    try clear c4
    try clear c5
    try clear c5b0
    try clear c5b1
    try clear c6
    try clear c6b0
    try clear c6b1
    try clear c7
    try clear c8
    try clear c10
    try clear c11
    try clear c12
    try clear c12b0
    try clear c12b1
    try clear c14
    try clear c14b0
    try clear c14b1
    try clear c17
    try clear c18
    try clear c22
    try clear c22b0
    try clear c22b1
    try clear c23
    try clear c23b0
    try clear c23b1
    try clear c24
    try clear c24b0
    try clear c24b1
    try clear c25
    try clear c25b0
    try clear c25b1
    try clear c26
    try clear c27
    try clear c28
    try clear c30
    try clear c31
    try clear c32
    try clear c36
    try clear c36b0
    try clear c36b1
    try clear c38
    try clear c38b0
    try clear c38b1
    try clear c44
    try clear c49
    try clear c49b0
    try clear c49b1
    try clear c50
    try clear c50b0
    try clear c50b1
    try clear c51
    try clear c51b0
    try clear c51b1
    try clear c52
    try clear c52b0
    try clear c52b1
    try clear c60
    try clear c64
    try clear c64b0
    try clear c64b1
    try clear c66
    try clear c66b0
    try clear c66b1
    try clear c69
    try clear c74
    try clear c74b0
    try clear c74b1
    try clear c75
    try clear c75b0
    try clear c75b1
    try clear c76
    try clear c76b0
    try clear c76b1
    try clear c77
    try clear c77b0
    try clear c77b1
    try clear c87
    try clear c87b0
    try clear c87b1
    try clear c89
    try clear c89b0
    try clear c89b1
    try clear p2
    obtain ⟨kq, x48_82, rfl, HA, HJ82, HO_0, HB⟩ := hcut
    cases kq with
    | zero => exact absurd HA.out (by simp [customslaw04_CalendarWorking.j3])
    | succ kj82 =>
     have H := HA.out
     clear HA
     simp only [customslaw04_CalendarWorking.j3] at H
     by_cases c95 : x48_82 = true
     ·
      subst c95
      have H1 : (some false) = some r := by rw [if_pos rfl] at H; exact H
      clear H
      have H := H1
      clear H1
      obtain rfl := Option.some.inj H
      go_wp2
      go_ret
      exact ⟨by first | rfl | (simp [errW_none, errW_some] <;> rfl) | (simp [*, errW_none, errW_some] <;> rfl), by repeat (first | (with_reducible first | exact HB.out | apply below_alloc | apply pw_below_drewN | apply below_drew1) | exact HB.out)⟩
     ·
      replace c95 := Bool.eq_false_iff.mpr c95
      subst c95
      have H1 : ((calendar_NextWorking.f kj82 t469 t472).bind fun bt493 => ((customsref04_NextWorking.f kj82 t469 t472).bind fun bt495 => ((calendar_AddWorking.f kj82 t469 t472 t473).bind fun bt497 => ((customsref04_AddWorking.f kj82 t469 t472 t473).bind fun bt499 => (if bt493.1 = bt495.1 then (if bt493.2 = bt495.2 then (if bt497.1 = bt499.1 then (if bt497.2 = bt499.2 then ((customslaw04_awake.f kj82).bind fun t501 => (some t501)) else (some false)) else (some false)) else (some false)) else (some false)))))) = some r := by rw [if_neg (show ¬ (false = true) by decide)] at H; exact H
      clear H
      have H := H1
      clear H1
      replace H := Option.bind_eq_some_iff.mp H
      obtain ⟨⟨t493, t494⟩, A960, H⟩ := H
      replace H : ((customsref04_NextWorking.f kj82 t469 t472).bind fun bt495 => ((calendar_AddWorking.f kj82 t469 t472 t473).bind fun bt497 => ((customsref04_AddWorking.f kj82 t469 t472 t473).bind fun bt499 => (if t493 = bt495.1 then (if t494 = bt495.2 then (if bt497.1 = bt499.1 then (if bt497.2 = bt499.2 then ((customslaw04_awake.f kj82).bind fun t501 => (some t501)) else (some false)) else (some false)) else (some false)) else (some false))))) = some r := H
      have A96 := Aside0.mk A960
      clear A960
      replace H := Option.bind_eq_some_iff.mp H
      obtain ⟨⟨t495, t496⟩, A970, H⟩ := H
      replace H : ((calendar_AddWorking.f kj82 t469 t472 t473).bind fun bt497 => ((customsref04_AddWorking.f kj82 t469 t472 t473).bind fun bt499 => (if t493 = t495 then (if t494 = t496 then (if bt497.1 = bt499.1 then (if bt497.2 = bt499.2 then ((customslaw04_awake.f kj82).bind fun t501 => (some t501)) else (some false)) else (some false)) else (some false)) else (some false)))) = some r := H
      have A97 := Aside0.mk A970
      clear A970
      replace H := Option.bind_eq_some_iff.mp H
      obtain ⟨⟨t497, t498⟩, A980, H⟩ := H
      replace H : ((customsref04_AddWorking.f kj82 t469 t472 t473).bind fun bt499 => (if t493 = t495 then (if t494 = t496 then (if t497 = bt499.1 then (if t498 = bt499.2 then ((customslaw04_awake.f kj82).bind fun t501 => (some t501)) else (some false)) else (some false)) else (some false)) else (some false))) = some r := H
      have A98 := Aside0.mk A980
      clear A980
      replace H := Option.bind_eq_some_iff.mp H
      obtain ⟨⟨t499, t500⟩, A990, H⟩ := H
      replace H : (if t493 = t495 then (if t494 = t496 then (if t497 = t499 then (if t498 = t500 then ((customslaw04_awake.f kj82).bind fun t501 => (some t501)) else (some false)) else (some false)) else (some false)) else (some false)) = some r := H
      have A99 := Aside0.mk A990
      clear A990
      by_cases c100 : t493 = t495
      ·
       rw [if_pos c100] at H
       have c100b0 : (t493 == t495) = true := beq_iff_eq.mpr c100
       have c100b1 : (t493 != t495) = false := bne_eq_false_iff_eq.mpr c100
       clear c100
       by_cases c101 : t494 = t496
       ·
        rw [if_pos c101] at H
        have c101b0 : (t494 == t496) = true := beq_iff_eq.mpr c101
        have c101b1 : (t494 != t496) = false := bne_eq_false_iff_eq.mpr c101
        clear c101
        by_cases c102 : t497 = t499
        ·
         rw [if_pos c102] at H
         have c102b0 : (t497 == t499) = true := beq_iff_eq.mpr c102
         have c102b1 : (t497 != t499) = false := bne_eq_false_iff_eq.mpr c102
         clear c102
         by_cases c103 : t498 = t500
         ·
          rw [if_pos c103] at H
          have c103b0 : (t498 == t500) = true := beq_iff_eq.mpr c103
          have c103b1 : (t498 != t500) = false := bne_eq_false_iff_eq.mpr c103
          clear c103
          replace H := Option.bind_eq_some_iff.mp H
          obtain ⟨t501, A1040, H⟩ := H
          replace H : (some t501) = some r := H
          have A104 := Aside0.mk A1040
          clear A1040
          obtain rfl := Option.some.inj H
          obtain ⟨Ao105, co105, eo105⟩ := Kd.R_slice HO_0.out
          subst eo105
          go_wp2_with (first | ((with_reducible refine gate_callee (f := 30) rfl ?_); refine goesL_ (some 52) rfl rfl Tryd.func30 (by kernel_rfl) rfl #[.slice Ao105 t469.length co105, .int .i64 t472] rfl (by (try simp only [List.map_toArray, List.map_cons, List.map_nil]); first | done | rfl | (simp only [List.length_drop, List.length_take]; rfl)) ?_; (with_reducible refine (calendar_NextWorking.calls kj82 _ _ t469 t472 t493 t494 _ ?side1 ?side2 A96.out).mono ?_); (case side1 => repeat (first | exact (Kd.R_reads' HO_0.out).2.2 | (with_reducible refine Kd.C_alloc ?_ _) | (with_reducible refine Kd.C_drewN ?_ _) | (with_reducible refine Kd.C_drew ?_))); (case side2 => exact (Kd.R_reads' HO_0.out).2.1); rintro e w' ⟨rfl, ⟨nd, rfl⟩⟩; refine ⟨_, rfl, ?_⟩) | ((with_reducible refine gate_callee (f := 31) rfl ?_); refine goesL_ (some 58) rfl rfl Tryd.func31 (by kernel_rfl) rfl #[.slice Ao105 t469.length co105, .int .i64 t472] rfl (by (try simp only [List.map_toArray, List.map_cons, List.map_nil]); first | done | rfl | (simp only [List.length_drop, List.length_take]; rfl)) ?_; (with_reducible refine (customsref04_NextWorking.calls kj82 _ _ t469 t472 t495 t496 _ ?side1 ?side2 A97.out).mono ?_); (case side1 => repeat (first | exact (Kd.R_reads' HO_0.out).2.2 | (with_reducible refine Kd.C_alloc ?_ _) | (with_reducible refine Kd.C_drewN ?_ _) | (with_reducible refine Kd.C_drew ?_))); (case side2 => exact (Kd.R_reads' HO_0.out).2.1); rintro e w' ⟨rfl, ⟨nd, rfl⟩⟩; refine ⟨_, rfl, ?_⟩) | ((with_reducible refine gate_callee (f := 26) rfl ?_); refine goesL_ (some 65) rfl rfl Tryd.func26 (by kernel_rfl) rfl #[.slice Ao105 t469.length co105, .int .i64 t472, .int .i64 t473] rfl (by (try simp only [List.map_toArray, List.map_cons, List.map_nil]); first | done | rfl | (simp only [List.length_drop, List.length_take]; rfl)) ?_; (with_reducible refine (calendar_AddWorking.calls kj82 _ _ t469 t472 t473 t497 t498 _ ?side1 ?side2 A98.out).mono ?_); (case side1 => repeat (first | exact (Kd.R_reads' HO_0.out).2.2 | (with_reducible refine Kd.C_alloc ?_ _) | (with_reducible refine Kd.C_drewN ?_ _) | (with_reducible refine Kd.C_drew ?_))); (case side2 => exact (Kd.R_reads' HO_0.out).2.1); rintro e w' ⟨rfl, ⟨nd, rfl⟩⟩; refine ⟨_, rfl, ?_⟩) | ((with_reducible refine gate_callee (f := 32) rfl ?_); refine goesL_ (some 72) rfl rfl Tryd.func32 (by kernel_rfl) rfl #[.slice Ao105 t469.length co105, .int .i64 t472, .int .i64 t473] rfl (by (try simp only [List.map_toArray, List.map_cons, List.map_nil]); first | done | rfl | (simp only [List.length_drop, List.length_take]; rfl)) ?_; (with_reducible refine (customsref04_AddWorking.calls kj82 _ _ t469 t472 t473 t499 t500 _ ?side1 ?side2 A99.out).mono ?_); (case side1 => repeat (first | exact (Kd.R_reads' HO_0.out).2.2 | (with_reducible refine Kd.C_alloc ?_ _) | (with_reducible refine Kd.C_drewN ?_ _) | (with_reducible refine Kd.C_drew ?_))); (case side2 => exact (Kd.R_reads' HO_0.out).2.1); rintro e w' ⟨rfl, ⟨nd, rfl⟩⟩; refine ⟨_, rfl, ?_⟩) | (go_at_call 17; (with_reducible refine (customslaw04_awake.calls kj82  t501 _ ?side1 A104.out).mono ?_); (case side1 => exact GL_lengths.of_below (by repeat (first | (with_reducible first | exact HB.out | apply below_alloc | apply pw_below_drewN | apply below_drew1) | exact HB.out)) HG_lengths.out); rintro e w106 ⟨rfl, hb⟩; have n0_ := Aside0.mk (Kd.R_below (by (with_reducible repeat (first | apply Kd.R_alloc | apply Kd.R_drewN | apply Kd.R_drew)); exact HO_0.out) hb); have n1_ := Aside0.mk (below_step (by repeat (first | (with_reducible first | exact HB.out | apply below_alloc | apply pw_below_drewN | apply below_drew1) | exact HB.out)) hb); clear HO_0; clear HB; have HO_0 := n0_; have HB := n1_; clear n0_ n1_; (try clear hb); (try clear hb2); (try clear hk); (try clear hi)))
          go_ret
          exact ⟨by first | rfl | (simp [errW_none, errW_some] <;> rfl) | (simp [*, errW_none, errW_some] <;> rfl), by repeat (first | (with_reducible first | exact HB.out | apply below_alloc | apply pw_below_drewN | apply below_drew1) | exact HB.out)⟩
         ·
          rw [if_neg c103] at H
          have c103b0 : (t498 == t500) = false := beq_eq_false_iff_ne.mpr c103
          have c103b1 : (t498 != t500) = true := bne_iff_ne.mpr c103
          obtain rfl := Option.some.inj H
          obtain ⟨Ao107, co107, eo107⟩ := Kd.R_slice HO_0.out
          subst eo107
          go_wp2_with (first | ((with_reducible refine gate_callee (f := 30) rfl ?_); refine goesL_ (some 52) rfl rfl Tryd.func30 (by kernel_rfl) rfl #[.slice Ao107 t469.length co107, .int .i64 t472] rfl (by (try simp only [List.map_toArray, List.map_cons, List.map_nil]); first | done | rfl | (simp only [List.length_drop, List.length_take]; rfl)) ?_; (with_reducible refine (calendar_NextWorking.calls kj82 _ _ t469 t472 t493 t494 _ ?side1 ?side2 A96.out).mono ?_); (case side1 => repeat (first | exact (Kd.R_reads' HO_0.out).2.2 | (with_reducible refine Kd.C_alloc ?_ _) | (with_reducible refine Kd.C_drewN ?_ _) | (with_reducible refine Kd.C_drew ?_))); (case side2 => exact (Kd.R_reads' HO_0.out).2.1); rintro e w' ⟨rfl, ⟨nd, rfl⟩⟩; refine ⟨_, rfl, ?_⟩) | ((with_reducible refine gate_callee (f := 31) rfl ?_); refine goesL_ (some 58) rfl rfl Tryd.func31 (by kernel_rfl) rfl #[.slice Ao107 t469.length co107, .int .i64 t472] rfl (by (try simp only [List.map_toArray, List.map_cons, List.map_nil]); first | done | rfl | (simp only [List.length_drop, List.length_take]; rfl)) ?_; (with_reducible refine (customsref04_NextWorking.calls kj82 _ _ t469 t472 t495 t496 _ ?side1 ?side2 A97.out).mono ?_); (case side1 => repeat (first | exact (Kd.R_reads' HO_0.out).2.2 | (with_reducible refine Kd.C_alloc ?_ _) | (with_reducible refine Kd.C_drewN ?_ _) | (with_reducible refine Kd.C_drew ?_))); (case side2 => exact (Kd.R_reads' HO_0.out).2.1); rintro e w' ⟨rfl, ⟨nd, rfl⟩⟩; refine ⟨_, rfl, ?_⟩) | ((with_reducible refine gate_callee (f := 26) rfl ?_); refine goesL_ (some 65) rfl rfl Tryd.func26 (by kernel_rfl) rfl #[.slice Ao107 t469.length co107, .int .i64 t472, .int .i64 t473] rfl (by (try simp only [List.map_toArray, List.map_cons, List.map_nil]); first | done | rfl | (simp only [List.length_drop, List.length_take]; rfl)) ?_; (with_reducible refine (calendar_AddWorking.calls kj82 _ _ t469 t472 t473 t497 t498 _ ?side1 ?side2 A98.out).mono ?_); (case side1 => repeat (first | exact (Kd.R_reads' HO_0.out).2.2 | (with_reducible refine Kd.C_alloc ?_ _) | (with_reducible refine Kd.C_drewN ?_ _) | (with_reducible refine Kd.C_drew ?_))); (case side2 => exact (Kd.R_reads' HO_0.out).2.1); rintro e w' ⟨rfl, ⟨nd, rfl⟩⟩; refine ⟨_, rfl, ?_⟩) | ((with_reducible refine gate_callee (f := 32) rfl ?_); refine goesL_ (some 72) rfl rfl Tryd.func32 (by kernel_rfl) rfl #[.slice Ao107 t469.length co107, .int .i64 t472, .int .i64 t473] rfl (by (try simp only [List.map_toArray, List.map_cons, List.map_nil]); first | done | rfl | (simp only [List.length_drop, List.length_take]; rfl)) ?_; (with_reducible refine (customsref04_AddWorking.calls kj82 _ _ t469 t472 t473 t499 t500 _ ?side1 ?side2 A99.out).mono ?_); (case side1 => repeat (first | exact (Kd.R_reads' HO_0.out).2.2 | (with_reducible refine Kd.C_alloc ?_ _) | (with_reducible refine Kd.C_drewN ?_ _) | (with_reducible refine Kd.C_drew ?_))); (case side2 => exact (Kd.R_reads' HO_0.out).2.1); rintro e w' ⟨rfl, ⟨nd, rfl⟩⟩; refine ⟨_, rfl, ?_⟩))
          go_ret
          exact ⟨by first | rfl | (simp [errW_none, errW_some] <;> rfl) | (simp [*, errW_none, errW_some] <;> rfl), by repeat (first | (with_reducible first | exact HB.out | apply below_alloc | apply pw_below_drewN | apply below_drew1) | exact HB.out)⟩
        ·
         rw [if_neg c102] at H
         have c102b0 : (t497 == t499) = false := beq_eq_false_iff_ne.mpr c102
         have c102b1 : (t497 != t499) = true := bne_iff_ne.mpr c102
         obtain rfl := Option.some.inj H
         obtain ⟨Ao108, co108, eo108⟩ := Kd.R_slice HO_0.out
         subst eo108
         go_wp2_with (first | ((with_reducible refine gate_callee (f := 30) rfl ?_); refine goesL_ (some 52) rfl rfl Tryd.func30 (by kernel_rfl) rfl #[.slice Ao108 t469.length co108, .int .i64 t472] rfl (by (try simp only [List.map_toArray, List.map_cons, List.map_nil]); first | done | rfl | (simp only [List.length_drop, List.length_take]; rfl)) ?_; (with_reducible refine (calendar_NextWorking.calls kj82 _ _ t469 t472 t493 t494 _ ?side1 ?side2 A96.out).mono ?_); (case side1 => repeat (first | exact (Kd.R_reads' HO_0.out).2.2 | (with_reducible refine Kd.C_alloc ?_ _) | (with_reducible refine Kd.C_drewN ?_ _) | (with_reducible refine Kd.C_drew ?_))); (case side2 => exact (Kd.R_reads' HO_0.out).2.1); rintro e w' ⟨rfl, ⟨nd, rfl⟩⟩; refine ⟨_, rfl, ?_⟩) | ((with_reducible refine gate_callee (f := 31) rfl ?_); refine goesL_ (some 58) rfl rfl Tryd.func31 (by kernel_rfl) rfl #[.slice Ao108 t469.length co108, .int .i64 t472] rfl (by (try simp only [List.map_toArray, List.map_cons, List.map_nil]); first | done | rfl | (simp only [List.length_drop, List.length_take]; rfl)) ?_; (with_reducible refine (customsref04_NextWorking.calls kj82 _ _ t469 t472 t495 t496 _ ?side1 ?side2 A97.out).mono ?_); (case side1 => repeat (first | exact (Kd.R_reads' HO_0.out).2.2 | (with_reducible refine Kd.C_alloc ?_ _) | (with_reducible refine Kd.C_drewN ?_ _) | (with_reducible refine Kd.C_drew ?_))); (case side2 => exact (Kd.R_reads' HO_0.out).2.1); rintro e w' ⟨rfl, ⟨nd, rfl⟩⟩; refine ⟨_, rfl, ?_⟩) | ((with_reducible refine gate_callee (f := 26) rfl ?_); refine goesL_ (some 65) rfl rfl Tryd.func26 (by kernel_rfl) rfl #[.slice Ao108 t469.length co108, .int .i64 t472, .int .i64 t473] rfl (by (try simp only [List.map_toArray, List.map_cons, List.map_nil]); first | done | rfl | (simp only [List.length_drop, List.length_take]; rfl)) ?_; (with_reducible refine (calendar_AddWorking.calls kj82 _ _ t469 t472 t473 t497 t498 _ ?side1 ?side2 A98.out).mono ?_); (case side1 => repeat (first | exact (Kd.R_reads' HO_0.out).2.2 | (with_reducible refine Kd.C_alloc ?_ _) | (with_reducible refine Kd.C_drewN ?_ _) | (with_reducible refine Kd.C_drew ?_))); (case side2 => exact (Kd.R_reads' HO_0.out).2.1); rintro e w' ⟨rfl, ⟨nd, rfl⟩⟩; refine ⟨_, rfl, ?_⟩) | ((with_reducible refine gate_callee (f := 32) rfl ?_); refine goesL_ (some 72) rfl rfl Tryd.func32 (by kernel_rfl) rfl #[.slice Ao108 t469.length co108, .int .i64 t472, .int .i64 t473] rfl (by (try simp only [List.map_toArray, List.map_cons, List.map_nil]); first | done | rfl | (simp only [List.length_drop, List.length_take]; rfl)) ?_; (with_reducible refine (customsref04_AddWorking.calls kj82 _ _ t469 t472 t473 t499 t500 _ ?side1 ?side2 A99.out).mono ?_); (case side1 => repeat (first | exact (Kd.R_reads' HO_0.out).2.2 | (with_reducible refine Kd.C_alloc ?_ _) | (with_reducible refine Kd.C_drewN ?_ _) | (with_reducible refine Kd.C_drew ?_))); (case side2 => exact (Kd.R_reads' HO_0.out).2.1); rintro e w' ⟨rfl, ⟨nd, rfl⟩⟩; refine ⟨_, rfl, ?_⟩))
         go_ret
         exact ⟨by first | rfl | (simp [errW_none, errW_some] <;> rfl) | (simp [*, errW_none, errW_some] <;> rfl), by repeat (first | (with_reducible first | exact HB.out | apply below_alloc | apply pw_below_drewN | apply below_drew1) | exact HB.out)⟩
       ·
        rw [if_neg c101] at H
        have c101b0 : (t494 == t496) = false := beq_eq_false_iff_ne.mpr c101
        have c101b1 : (t494 != t496) = true := bne_iff_ne.mpr c101
        obtain rfl := Option.some.inj H
        obtain ⟨Ao109, co109, eo109⟩ := Kd.R_slice HO_0.out
        subst eo109
        go_wp2_with (first | ((with_reducible refine gate_callee (f := 30) rfl ?_); refine goesL_ (some 52) rfl rfl Tryd.func30 (by kernel_rfl) rfl #[.slice Ao109 t469.length co109, .int .i64 t472] rfl (by (try simp only [List.map_toArray, List.map_cons, List.map_nil]); first | done | rfl | (simp only [List.length_drop, List.length_take]; rfl)) ?_; (with_reducible refine (calendar_NextWorking.calls kj82 _ _ t469 t472 t493 t494 _ ?side1 ?side2 A96.out).mono ?_); (case side1 => repeat (first | exact (Kd.R_reads' HO_0.out).2.2 | (with_reducible refine Kd.C_alloc ?_ _) | (with_reducible refine Kd.C_drewN ?_ _) | (with_reducible refine Kd.C_drew ?_))); (case side2 => exact (Kd.R_reads' HO_0.out).2.1); rintro e w' ⟨rfl, ⟨nd, rfl⟩⟩; refine ⟨_, rfl, ?_⟩) | ((with_reducible refine gate_callee (f := 31) rfl ?_); refine goesL_ (some 58) rfl rfl Tryd.func31 (by kernel_rfl) rfl #[.slice Ao109 t469.length co109, .int .i64 t472] rfl (by (try simp only [List.map_toArray, List.map_cons, List.map_nil]); first | done | rfl | (simp only [List.length_drop, List.length_take]; rfl)) ?_; (with_reducible refine (customsref04_NextWorking.calls kj82 _ _ t469 t472 t495 t496 _ ?side1 ?side2 A97.out).mono ?_); (case side1 => repeat (first | exact (Kd.R_reads' HO_0.out).2.2 | (with_reducible refine Kd.C_alloc ?_ _) | (with_reducible refine Kd.C_drewN ?_ _) | (with_reducible refine Kd.C_drew ?_))); (case side2 => exact (Kd.R_reads' HO_0.out).2.1); rintro e w' ⟨rfl, ⟨nd, rfl⟩⟩; refine ⟨_, rfl, ?_⟩) | ((with_reducible refine gate_callee (f := 26) rfl ?_); refine goesL_ (some 65) rfl rfl Tryd.func26 (by kernel_rfl) rfl #[.slice Ao109 t469.length co109, .int .i64 t472, .int .i64 t473] rfl (by (try simp only [List.map_toArray, List.map_cons, List.map_nil]); first | done | rfl | (simp only [List.length_drop, List.length_take]; rfl)) ?_; (with_reducible refine (calendar_AddWorking.calls kj82 _ _ t469 t472 t473 t497 t498 _ ?side1 ?side2 A98.out).mono ?_); (case side1 => repeat (first | exact (Kd.R_reads' HO_0.out).2.2 | (with_reducible refine Kd.C_alloc ?_ _) | (with_reducible refine Kd.C_drewN ?_ _) | (with_reducible refine Kd.C_drew ?_))); (case side2 => exact (Kd.R_reads' HO_0.out).2.1); rintro e w' ⟨rfl, ⟨nd, rfl⟩⟩; refine ⟨_, rfl, ?_⟩) | ((with_reducible refine gate_callee (f := 32) rfl ?_); refine goesL_ (some 72) rfl rfl Tryd.func32 (by kernel_rfl) rfl #[.slice Ao109 t469.length co109, .int .i64 t472, .int .i64 t473] rfl (by (try simp only [List.map_toArray, List.map_cons, List.map_nil]); first | done | rfl | (simp only [List.length_drop, List.length_take]; rfl)) ?_; (with_reducible refine (customsref04_AddWorking.calls kj82 _ _ t469 t472 t473 t499 t500 _ ?side1 ?side2 A99.out).mono ?_); (case side1 => repeat (first | exact (Kd.R_reads' HO_0.out).2.2 | (with_reducible refine Kd.C_alloc ?_ _) | (with_reducible refine Kd.C_drewN ?_ _) | (with_reducible refine Kd.C_drew ?_))); (case side2 => exact (Kd.R_reads' HO_0.out).2.1); rintro e w' ⟨rfl, ⟨nd, rfl⟩⟩; refine ⟨_, rfl, ?_⟩))
        go_ret
        exact ⟨by first | rfl | (simp [errW_none, errW_some] <;> rfl) | (simp [*, errW_none, errW_some] <;> rfl), by repeat (first | (with_reducible first | exact HB.out | apply below_alloc | apply pw_below_drewN | apply below_drew1) | exact HB.out)⟩
      ·
       rw [if_neg c100] at H
       have c100b0 : (t493 == t495) = false := beq_eq_false_iff_ne.mpr c100
       have c100b1 : (t493 != t495) = true := bne_iff_ne.mpr c100
       obtain rfl := Option.some.inj H
       obtain ⟨Ao110, co110, eo110⟩ := Kd.R_slice HO_0.out
       subst eo110
       go_wp2_with (first | ((with_reducible refine gate_callee (f := 30) rfl ?_); refine goesL_ (some 52) rfl rfl Tryd.func30 (by kernel_rfl) rfl #[.slice Ao110 t469.length co110, .int .i64 t472] rfl (by (try simp only [List.map_toArray, List.map_cons, List.map_nil]); first | done | rfl | (simp only [List.length_drop, List.length_take]; rfl)) ?_; (with_reducible refine (calendar_NextWorking.calls kj82 _ _ t469 t472 t493 t494 _ ?side1 ?side2 A96.out).mono ?_); (case side1 => repeat (first | exact (Kd.R_reads' HO_0.out).2.2 | (with_reducible refine Kd.C_alloc ?_ _) | (with_reducible refine Kd.C_drewN ?_ _) | (with_reducible refine Kd.C_drew ?_))); (case side2 => exact (Kd.R_reads' HO_0.out).2.1); rintro e w' ⟨rfl, ⟨nd, rfl⟩⟩; refine ⟨_, rfl, ?_⟩) | ((with_reducible refine gate_callee (f := 31) rfl ?_); refine goesL_ (some 58) rfl rfl Tryd.func31 (by kernel_rfl) rfl #[.slice Ao110 t469.length co110, .int .i64 t472] rfl (by (try simp only [List.map_toArray, List.map_cons, List.map_nil]); first | done | rfl | (simp only [List.length_drop, List.length_take]; rfl)) ?_; (with_reducible refine (customsref04_NextWorking.calls kj82 _ _ t469 t472 t495 t496 _ ?side1 ?side2 A97.out).mono ?_); (case side1 => repeat (first | exact (Kd.R_reads' HO_0.out).2.2 | (with_reducible refine Kd.C_alloc ?_ _) | (with_reducible refine Kd.C_drewN ?_ _) | (with_reducible refine Kd.C_drew ?_))); (case side2 => exact (Kd.R_reads' HO_0.out).2.1); rintro e w' ⟨rfl, ⟨nd, rfl⟩⟩; refine ⟨_, rfl, ?_⟩) | ((with_reducible refine gate_callee (f := 26) rfl ?_); refine goesL_ (some 65) rfl rfl Tryd.func26 (by kernel_rfl) rfl #[.slice Ao110 t469.length co110, .int .i64 t472, .int .i64 t473] rfl (by (try simp only [List.map_toArray, List.map_cons, List.map_nil]); first | done | rfl | (simp only [List.length_drop, List.length_take]; rfl)) ?_; (with_reducible refine (calendar_AddWorking.calls kj82 _ _ t469 t472 t473 t497 t498 _ ?side1 ?side2 A98.out).mono ?_); (case side1 => repeat (first | exact (Kd.R_reads' HO_0.out).2.2 | (with_reducible refine Kd.C_alloc ?_ _) | (with_reducible refine Kd.C_drewN ?_ _) | (with_reducible refine Kd.C_drew ?_))); (case side2 => exact (Kd.R_reads' HO_0.out).2.1); rintro e w' ⟨rfl, ⟨nd, rfl⟩⟩; refine ⟨_, rfl, ?_⟩) | ((with_reducible refine gate_callee (f := 32) rfl ?_); refine goesL_ (some 72) rfl rfl Tryd.func32 (by kernel_rfl) rfl #[.slice Ao110 t469.length co110, .int .i64 t472, .int .i64 t473] rfl (by (try simp only [List.map_toArray, List.map_cons, List.map_nil]); first | done | rfl | (simp only [List.length_drop, List.length_take]; rfl)) ?_; (with_reducible refine (customsref04_AddWorking.calls kj82 _ _ t469 t472 t473 t499 t500 _ ?side1 ?side2 A99.out).mono ?_); (case side1 => repeat (first | exact (Kd.R_reads' HO_0.out).2.2 | (with_reducible refine Kd.C_alloc ?_ _) | (with_reducible refine Kd.C_drewN ?_ _) | (with_reducible refine Kd.C_drew ?_))); (case side2 => exact (Kd.R_reads' HO_0.out).2.1); rintro e w' ⟨rfl, ⟨nd, rfl⟩⟩; refine ⟨_, rfl, ?_⟩))
       go_ret
       exact ⟨by first | rfl | (simp [errW_none, errW_some] <;> rfl) | (simp [*, errW_none, errW_some] <;> rfl), by repeat (first | (with_reducible first | exact HB.out | apply below_alloc | apply pw_below_drewN | apply below_drew1) | exact HB.out)⟩

/-- THE ONE PURE STATEMENT of customslaw04_CalendarWorking: yours. -/
def customslaw04_CalendarWorking.Pure : Prop := ∀ (l0 : List Int) (a1 : Int) (a2 : Int) (a3 : Bool), l0.length ≤ maxLen → l0.length * 8 ≤ 140737488351232 → (∀ x ∈ l0, (Lit.int .i64 x).wf = true) → (Lit.int .i64 a1).wf = true → (Lit.int .i64 a2).wf = true → ∃ k, customslaw04_CalendarWorking.f k l0 a1 a2 a3 = some true
theorem customslaw04_CalendarWorking.walk (P : customslaw04_CalendarWorking.Pure) (a0 : Option Addr) (len0 cap0 : Nat) (z0 : List Int) (a1 : Int) (a2 : Int) (a3 : Bool) (w : World) (hG_lengths : GL_lengths w) (w0 : (a0 = none ∧ len0 = 0 ∧ cap0 = 0 ∧ z0 = []) ∨ ∃ x, a0 = some x ∧ len0 ≤ cap0 ∧ cap0 ≤ maxLen ∧ z0.length = cap0 ∧ (∀ i, i < z0.length → w.cell? (x.add i) = some (.int .i64 (z0.getD i 0))) ∧ ∀ n ∈ z0, (Lit.int .i64 n).wf = true) (y0 : len0 * 8 ≤ 140737488351232) (w1 : (Lit.int .i64 a1).wf = true) (w2 : (Lit.int .i64 a2).wf = true) :
  Calls Tryd.prog 10 #[.slice a0 len0 cap0, .int .i64 a1, .int .i64 a2, .bool a3] w fun e w' => e = .returned (.bool true) ∧ Below w.heap.size w w' := by
 obtain ⟨l0, rfl, hr0, hm0, hw0, hc0⟩ := ReadsInt.ofRowC w0
 obtain ⟨k, h⟩ := P l0 a1 a2 a3 hm0 y0 hw0 w1 w2
 refine (customslaw04_CalendarWorking.calls k _ _ l0 a1 a2 a3 true w (Kd.C_of_reads (d := (0 : Int)) (h1 := fun _ => rfl) hr0) hc0 hG_lengths h).mono ?_
 rintro e w' ⟨rfl, hd⟩
 exact ⟨rfl, hd⟩

end Go.Proofs.YtlmcejiebobfbaaDoor.G

namespace Go.Proofs.YtlmcejiebobfbaaDoor.G
open Go.RowKit Go.Proofs.YtlmcejiebobfbaaDoorW.PrintWords Go.Proofs.YtlmcejiebobfbaaDoorW.PrintLast Go.Proofs.YtlmcejiebobfbaaDoorW.PrintMore
attribute [local go_sem] max2_int min2_int max_two min_two max_three min_three max_four min_four   -- for this text's walks alone
set_option linter.unusedVariables false
set_option linter.unusedSimpArgs false

def customsref04_within.f (a0 : Int) : Option (Bool) := if a0 ≥ 0 then (some (decide (a0 ≤ 1000))) else (some false)
set_option maxHeartbeats 8000000 in
set_option maxRecDepth 100000 in
theorem customsref04_within.calls (a0 : Int) (r : Bool) (w : World) (h : customsref04_within.f a0 = some r) :
  Calls Tryd.prog 42 #[.int .i64 a0] w fun e w' => e = .returned (.bool r) ∧ Drawn0 w w' := by
 have H : (if a0 ≥ 0 then (some (decide (a0 ≤ 1000))) else (some false)) = some r := h
 clear h
 by_cases c2 : a0 ≥ 0
 ·
  rw [if_pos c2] at H
  have c2b0 : decide (0 ≤ a0) = true := decide_eq_true c2
  clear c2
  obtain rfl := Option.some.inj H
  go_enter Tryd.func42, Tryd.ntmps42
  go_wp2
  go_ret
  exact ⟨by first | rfl | (simp; done) | (simp [*]; done), by repeat (first | exact Drawn0.refl _ | apply Drawn0.step)⟩
 ·
  rw [if_neg c2] at H
  have c2b0 : decide (0 ≤ a0) = false := decide_eq_false c2
  clear c2
  obtain rfl := Option.some.inj H
  go_enter Tryd.func42, Tryd.ntmps42
  go_wp2
  go_ret
  exact ⟨by first | rfl | (simp; done) | (simp [*]; done), by repeat (first | exact Drawn0.refl _ | apply Drawn0.step)⟩

end Go.Proofs.YtlmcejiebobfbaaDoor.G

namespace Go.Proofs.YtlmcejiebobfbaaDoor.G
open Go.RowKit Go.Proofs.YtlmcejiebobfbaaDoorW.PrintWords Go.Proofs.YtlmcejiebobfbaaDoorW.PrintLast Go.Proofs.YtlmcejiebobfbaaDoorW.PrintMore
attribute [local go_sem] max2_int min2_int max_two min_two max_three min_three max_four min_four   -- for this text's walks alone
set_option linter.unusedVariables false
set_option linter.unusedSimpArgs false

mutual
def customsref04_Deadline.j0 : Nat → List Int → Int → Bool → Int → Int → Int → Option (Int × Int)
 | 0, _, _, _, _, _, _ => none
 | k + 1, x0, x1, x36, x339000, x339001, x339002 => if x36 = true then (some (0, 2)) else ((customsref04_AddMonths.f k x1 x339000).bind fun bt344 => (if bt344.2 = 0 then ((customsref04_Day.f (wrap64 (bt344.1 + x339001))).bind fun t346 => (customsref04_Deadline.j1 k x0 bt344.1 (!t346) x339000 x339001 x339002)) else (customsref04_Deadline.j1 k x0 bt344.1 true x339000 x339001 x339002)))
def customsref04_Deadline.j1 : Nat → List Int → Int → Bool → Int → Int → Int → Option (Int × Int)
 | 0, _, _, _, _, _, _ => none
 | k + 1, x0, x9, x53, x339000, x339001, x339002 => if x53 = true then (some (0, 3)) else ((customsref04_AddWorking.f k x0 (wrap64 (x9 + x339001)) x339002).bind fun bt347 => (if bt347.2 = 0 then ((customsref04_NextWorking.f k x0 bt347.1).bind fun bt349 => (some (bt349.1, bt349.2))) else (some (0, bt347.2))))
end
def customsref04_Deadline.f (k : Nat) (l0 : List Int) (a1 : Int) (a2_0 : Int) (a2_1 : Int) (a2_2 : Int) : Option (Int × Int) := (customsref04_Valid.f k l0).bind fun t339 => (if t339 = 0 then ((customsref04_Day.f a1).bind fun t340 => (if t340 = true then ((customsref04_within.f a2_0).bind fun t341 => (if t341 = true then ((customsref04_within.f a2_1).bind fun t342 => (if t342 = true then ((customsref04_within.f a2_2).bind fun t343 => (customsref04_Deadline.j0 k l0 a1 (!t343) a2_0 a2_1 a2_2)) else (customsref04_Deadline.j0 k l0 a1 true a2_0 a2_1 a2_2))) else (customsref04_Deadline.j0 k l0 a1 true a2_0 a2_1 a2_2))) else (customsref04_Deadline.j0 k l0 a1 true a2_0 a2_1 a2_2))) else (some (0, t339)))
set_option maxHeartbeats 8000000 in
set_option maxRecDepth 100000 in
theorem customsref04_Deadline.calls (k : Nat) (A0 : Option Addr) (c0 : Nat) (l0 : List Int) (a1 : Int) (a2_0 : Int) (a2_1 : Int) (a2_2 : Int) (r1 : Int) (r2 : Int) (w : World) (hr0 : Kd.C (Kd.int .i64) w A0 l0.length l0) (hc0 : l0.length ≤ c0) (h : customsref04_Deadline.f k l0 a1 a2_0 a2_1 a2_2 = some (r1, r2)) :
  Calls Tryd.prog 24 #[.slice A0 l0.length c0, .int .i64 a1, .agg #[.int .i64 a2_0, .int .i64 a2_1, .int .i64 a2_2]] w fun e w' => e = .returned (.tuple #[.int .i64 r1, .int .i64 r2]) ∧ Below w.heap.size w w' := by
 have hu41 := Tryd.underlying41
 have HR0 := Aside0.mk hr0
 have HC0 := Aside0.mk hc0
 clear hr0 hc0
 have HB := Aside0.mk (Below.refl w.heap.size w)
 have H : ((customsref04_Valid.f k l0).bind fun t339 => (if t339 = 0 then ((customsref04_Day.f a1).bind fun t340 => (if t340 = true then ((customsref04_within.f a2_0).bind fun t341 => (if t341 = true then ((customsref04_within.f a2_1).bind fun t342 => (if t342 = true then ((customsref04_within.f a2_2).bind fun t343 => (customsref04_Deadline.j0 k l0 a1 (!t343) a2_0 a2_1 a2_2)) else (customsref04_Deadline.j0 k l0 a1 true a2_0 a2_1 a2_2))) else (customsref04_Deadline.j0 k l0 a1 true a2_0 a2_1 a2_2))) else (customsref04_Deadline.j0 k l0 a1 true a2_0 a2_1 a2_2))) else (some (0, t339)))) = some (r1, r2) := h
 clear h
 replace H := Option.bind_eq_some_iff.mp H
 obtain ⟨t339, A40, H⟩ := H
 replace H : (if t339 = 0 then ((customsref04_Day.f a1).bind fun t340 => (if t340 = true then ((customsref04_within.f a2_0).bind fun t341 => (if t341 = true then ((customsref04_within.f a2_1).bind fun t342 => (if t342 = true then ((customsref04_within.f a2_2).bind fun t343 => (customsref04_Deadline.j0 k l0 a1 (!t343) a2_0 a2_1 a2_2)) else (customsref04_Deadline.j0 k l0 a1 true a2_0 a2_1 a2_2))) else (customsref04_Deadline.j0 k l0 a1 true a2_0 a2_1 a2_2))) else (customsref04_Deadline.j0 k l0 a1 true a2_0 a2_1 a2_2))) else (some (0, t339))) = some (r1, r2) := H
 have A4 := Aside0.mk A40
 clear A40
 by_cases c5 : t339 = 0
 ·
  rw [if_pos c5] at H
  have c5b0 : (t339 == 0) = true := beq_iff_eq.mpr c5
  have c5b1 : (t339 != 0) = false := bne_eq_false_iff_eq.mpr c5
  clear c5
  have HC6 := Aside0.mk H
  clear H
  go_enter Tryd.func24, Tryd.ntmps24
  go_upto_region 4 with (first | ((with_reducible refine gate_dst (N := 5) rfl ?_); refine box_event ?hg (N := 5) ?hd (cs := #[.int .i64 a2_0, .int .i64 a2_1, .int .i64 a2_2]) (t := 41) ?hr ?_; (case hd => rfl); (case hg => rfl); (case hr => first | (go_simp; done) | (go_simp; rfl)); intro gb338 hg w7 hbox hb; have n0_ := Aside0.mk (below_step (by repeat (first | (with_reducible first | exact HB.out | apply below_alloc | apply pw_below_drewN | apply below_drew1) | exact HB.out)) hb); have n1_ := Aside0.mk (hbox); have n2_ := Aside0.mk ((by rw [hg]; exact (below_size (by repeat (first | (with_reducible first | exact HB.out | apply below_alloc | apply pw_below_drewN | apply below_drew1) | exact HB.out))) : w.heap.size ≤ gb338)); have n3_ := Aside0.mk ((by rw [hg]; exact (below_size (by repeat (first | (with_reducible first | exact HB.out | apply below_alloc | apply pw_below_drewN | apply below_drew1) | exact HB.out))) : w.heap.size ≤ gb338)); clear HB; have HB := n0_; have BK338 := n1_; have GW338 := n2_; have GE338 := n3_; clear n0_ n1_ n2_ n3_; clear hb hbox hg) | ((with_reducible refine gate_callee (f := 28) rfl ?_); refine goesL_ (some 12) rfl rfl Tryd.func28 (by kernel_rfl) rfl #[.slice A0 l0.length c0] rfl (by (try simp only [List.map_toArray, List.map_cons, List.map_nil]); first | done | rfl | (simp only [List.length_drop, List.length_take]; rfl)) ?_; (with_reducible refine (customsref04_Valid.calls k _ _ l0 t339 _ ?side1 ?side2 A4.out).mono ?_); (case side1 => repeat (first | exact (Kd.C_below HR0.out HB.out) | (with_reducible refine Kd.C_alloc ?_ _) | (with_reducible refine Kd.C_drewN ?_ _) | (with_reducible refine Kd.C_drew ?_))); (case side2 => exact HC0.out); rintro e w' ⟨rfl, ⟨nd, rfl⟩⟩; refine ⟨_, rfl, ?_⟩))
  (try simp only [Act.put, List.setIfInBounds_toArray, List.set_cons_zero, List.set_cons_succ])
  go_cut [36] (fun v36 wc => ∃ (kq : Nat) (x36_5 : Bool), v36 = .bool x36_5 ∧ Aside0 (customsref04_Deadline.j0 kq l0 a1 x36_5 a2_0 a2_1 a2_2 = some (r1, r2)) ∧ Aside0 (kq ≤ k) ∧ Aside0 (wc.heap[gb338]? = some (.cells #[.int .i64 a2_0, .int .i64 a2_1, .int .i64 a2_2] 41 (0, 0))) ∧ Aside0 (Below w.heap.size w wc))
  case first =>
   have H := HC6.out
   clear HC6
   replace H := Option.bind_eq_some_iff.mp H
   obtain ⟨t340, A80, H⟩ := H
   replace H : (if t340 = true then ((customsref04_within.f a2_0).bind fun t341 => (if t341 = true then ((customsref04_within.f a2_1).bind fun t342 => (if t342 = true then ((customsref04_within.f a2_2).bind fun t343 => (customsref04_Deadline.j0 k l0 a1 (!t343) a2_0 a2_1 a2_2)) else (customsref04_Deadline.j0 k l0 a1 true a2_0 a2_1 a2_2))) else (customsref04_Deadline.j0 k l0 a1 true a2_0 a2_1 a2_2))) else (customsref04_Deadline.j0 k l0 a1 true a2_0 a2_1 a2_2)) = some (r1, r2) := H
   have A8 := Aside0.mk A80
   clear A80
   by_cases c9 : t340 = true
   ·
    subst c9
    have H1 : ((customsref04_within.f a2_0).bind fun t341 => (if t341 = true then ((customsref04_within.f a2_1).bind fun t342 => (if t342 = true then ((customsref04_within.f a2_2).bind fun t343 => (customsref04_Deadline.j0 k l0 a1 (!t343) a2_0 a2_1 a2_2)) else (customsref04_Deadline.j0 k l0 a1 true a2_0 a2_1 a2_2))) else (customsref04_Deadline.j0 k l0 a1 true a2_0 a2_1 a2_2))) = some (r1, r2) := by rw [if_pos rfl] at H; exact H
    clear H
    have H := H1
    clear H1
    replace H := Option.bind_eq_some_iff.mp H
    obtain ⟨t341, A100, H⟩ := H
    replace H : (if t341 = true then ((customsref04_within.f a2_1).bind fun t342 => (if t342 = true then ((customsref04_within.f a2_2).bind fun t343 => (customsref04_Deadline.j0 k l0 a1 (!t343) a2_0 a2_1 a2_2)) else (customsref04_Deadline.j0 k l0 a1 true a2_0 a2_1 a2_2))) else (customsref04_Deadline.j0 k l0 a1 true a2_0 a2_1 a2_2)) = some (r1, r2) := H
    have A10 := Aside0.mk A100
    clear A100
    by_cases c11 : t341 = true
    ·
     subst c11
     have H1 : ((customsref04_within.f a2_1).bind fun t342 => (if t342 = true then ((customsref04_within.f a2_2).bind fun t343 => (customsref04_Deadline.j0 k l0 a1 (!t343) a2_0 a2_1 a2_2)) else (customsref04_Deadline.j0 k l0 a1 true a2_0 a2_1 a2_2))) = some (r1, r2) := by rw [if_pos rfl] at H; exact H
     clear H
     have H := H1
     clear H1
     replace H := Option.bind_eq_some_iff.mp H
     obtain ⟨t342, A120, H⟩ := H
     replace H : (if t342 = true then ((customsref04_within.f a2_2).bind fun t343 => (customsref04_Deadline.j0 k l0 a1 (!t343) a2_0 a2_1 a2_2)) else (customsref04_Deadline.j0 k l0 a1 true a2_0 a2_1 a2_2)) = some (r1, r2) := H
     have A12 := Aside0.mk A120
     clear A120
     by_cases c13 : t342 = true
     ·
      subst c13
      have H1 : ((customsref04_within.f a2_2).bind fun t343 => (customsref04_Deadline.j0 k l0 a1 (!t343) a2_0 a2_1 a2_2)) = some (r1, r2) := by rw [if_pos rfl] at H; exact H
      clear H
      have H := H1
      clear H1
      replace H := Option.bind_eq_some_iff.mp H
      obtain ⟨t343, A140, H⟩ := H
      replace H : (customsref04_Deadline.j0 k l0 a1 (!t343) a2_0 a2_1 a2_2) = some (r1, r2) := H
      have A14 := Aside0.mk A140
      clear A140
      have H' := Aside0.mk H
      clear H
      go_wp2_with (first | ((with_reducible refine gate_callee (f := 36) rfl ?_); refine goesL_ (some 17) rfl rfl Tryd.func36 (by kernel_rfl) rfl #[.int .i64 a1] rfl (by (try simp only [List.map_toArray, List.map_cons, List.map_nil]); first | done | rfl | (simp only [List.length_drop, List.length_take]; rfl)) ?_; (with_reducible refine (customsref04_Day.calls a1 true _ A8.out).mono ?_); rintro e w' ⟨rfl, ⟨nd, rfl⟩⟩; refine ⟨_, rfl, ?_⟩; have hcz15_0 : w7.cell? ⟨gb338, 0, none⟩ = some (.int .i64 a2_0) := (blk_cell BK338.out 0).trans rfl; have hcz15_1 : w7.cell? ⟨gb338, 1, none⟩ = some (.int .i64 a2_1) := (blk_cell BK338.out 1).trans rfl; have hcz15_2 : w7.cell? ⟨gb338, 2, none⟩ = some (.int .i64 a2_2) := (blk_cell BK338.out 2).trans rfl; have hfz15_0 := blk_frozen BK338.out 0; have hfz15_1 := blk_frozen BK338.out 1; have hfz15_2 := blk_frozen BK338.out 2) | (go_at_call 42; (with_reducible refine (customsref04_within.calls a2_0 true _ A10.out).mono ?_); rintro e w' ⟨rfl, ⟨nd, rfl⟩⟩) | (go_at_call 42; (with_reducible refine (customsref04_within.calls a2_1 true _ A12.out).mono ?_); rintro e w' ⟨rfl, ⟨nd, rfl⟩⟩) | (go_at_call 42; (with_reducible refine (customsref04_within.calls a2_2 t343 _ A14.out).mono ?_); rintro e w' ⟨rfl, ⟨nd, rfl⟩⟩))
      go_meet
      case rel => exact ⟨_, (!t343), (by first | rfl | (simp; done) | (simp [*]; done)), H', ⟨by first | omega | exact Nat.le_refl _⟩, ⟨by (with_reducible repeat (first | refine blk_drewN ?_ _ | refine blk_drew ?_ | refine blk_alloc ?_ _)); exact BK338.out⟩, ⟨by repeat (first | (with_reducible first | exact HB.out | apply below_alloc | apply pw_below_drewN | apply below_drew1 | refine below_set ?_ GE338.out) | exact HB.out)⟩⟩
     ·
      replace c13 := Bool.eq_false_iff.mpr c13
      subst c13
      have H1 : (customsref04_Deadline.j0 k l0 a1 true a2_0 a2_1 a2_2) = some (r1, r2) := by rw [if_neg (show ¬ (false = true) by decide)] at H; exact H
      clear H
      have H := H1
      clear H1
      have H' := Aside0.mk H
      clear H
      go_wp2_with (first | ((with_reducible refine gate_callee (f := 36) rfl ?_); refine goesL_ (some 17) rfl rfl Tryd.func36 (by kernel_rfl) rfl #[.int .i64 a1] rfl (by (try simp only [List.map_toArray, List.map_cons, List.map_nil]); first | done | rfl | (simp only [List.length_drop, List.length_take]; rfl)) ?_; (with_reducible refine (customsref04_Day.calls a1 true _ A8.out).mono ?_); rintro e w' ⟨rfl, ⟨nd, rfl⟩⟩; refine ⟨_, rfl, ?_⟩; have hcz16_0 : w7.cell? ⟨gb338, 0, none⟩ = some (.int .i64 a2_0) := (blk_cell BK338.out 0).trans rfl; have hcz16_1 : w7.cell? ⟨gb338, 1, none⟩ = some (.int .i64 a2_1) := (blk_cell BK338.out 1).trans rfl; have hcz16_2 : w7.cell? ⟨gb338, 2, none⟩ = some (.int .i64 a2_2) := (blk_cell BK338.out 2).trans rfl; have hfz16_0 := blk_frozen BK338.out 0; have hfz16_1 := blk_frozen BK338.out 1; have hfz16_2 := blk_frozen BK338.out 2) | (go_at_call 42; (with_reducible refine (customsref04_within.calls a2_0 true _ A10.out).mono ?_); rintro e w' ⟨rfl, ⟨nd, rfl⟩⟩) | (go_at_call 42; (with_reducible refine (customsref04_within.calls a2_1 false _ A12.out).mono ?_); rintro e w' ⟨rfl, ⟨nd, rfl⟩⟩))
      go_meet
      case rel => exact ⟨_, (true), (by first | rfl | (simp; done) | (simp [*]; done)), H', ⟨by first | omega | exact Nat.le_refl _⟩, ⟨by (with_reducible repeat (first | refine blk_drewN ?_ _ | refine blk_drew ?_ | refine blk_alloc ?_ _)); exact BK338.out⟩, ⟨by repeat (first | (with_reducible first | exact HB.out | apply below_alloc | apply pw_below_drewN | apply below_drew1 | refine below_set ?_ GE338.out) | exact HB.out)⟩⟩
    ·
     replace c11 := Bool.eq_false_iff.mpr c11
     subst c11
     have H1 : (customsref04_Deadline.j0 k l0 a1 true a2_0 a2_1 a2_2) = some (r1, r2) := by rw [if_neg (show ¬ (false = true) by decide)] at H; exact H
     clear H
     have H := H1
     clear H1
     have H' := Aside0.mk H
     clear H
     go_wp2_with (first | ((with_reducible refine gate_callee (f := 36) rfl ?_); refine goesL_ (some 17) rfl rfl Tryd.func36 (by kernel_rfl) rfl #[.int .i64 a1] rfl (by (try simp only [List.map_toArray, List.map_cons, List.map_nil]); first | done | rfl | (simp only [List.length_drop, List.length_take]; rfl)) ?_; (with_reducible refine (customsref04_Day.calls a1 true _ A8.out).mono ?_); rintro e w' ⟨rfl, ⟨nd, rfl⟩⟩; refine ⟨_, rfl, ?_⟩; have hcz17_0 : w7.cell? ⟨gb338, 0, none⟩ = some (.int .i64 a2_0) := (blk_cell BK338.out 0).trans rfl; have hcz17_1 : w7.cell? ⟨gb338, 1, none⟩ = some (.int .i64 a2_1) := (blk_cell BK338.out 1).trans rfl; have hcz17_2 : w7.cell? ⟨gb338, 2, none⟩ = some (.int .i64 a2_2) := (blk_cell BK338.out 2).trans rfl; have hfz17_0 := blk_frozen BK338.out 0; have hfz17_1 := blk_frozen BK338.out 1; have hfz17_2 := blk_frozen BK338.out 2) | (go_at_call 42; (with_reducible refine (customsref04_within.calls a2_0 false _ A10.out).mono ?_); rintro e w' ⟨rfl, ⟨nd, rfl⟩⟩))
     go_meet
     case rel => exact ⟨_, (true), (by first | rfl | (simp; done) | (simp [*]; done)), H', ⟨by first | omega | exact Nat.le_refl _⟩, ⟨by (with_reducible repeat (first | refine blk_drewN ?_ _ | refine blk_drew ?_ | refine blk_alloc ?_ _)); exact BK338.out⟩, ⟨by repeat (first | (with_reducible first | exact HB.out | apply below_alloc | apply pw_below_drewN | apply below_drew1 | refine below_set ?_ GE338.out) | exact HB.out)⟩⟩
   ·
    replace c9 := Bool.eq_false_iff.mpr c9
    subst c9
    have H1 : (customsref04_Deadline.j0 k l0 a1 true a2_0 a2_1 a2_2) = some (r1, r2) := by rw [if_neg (show ¬ (false = true) by decide)] at H; exact H
    clear H
    have H := H1
    clear H1
    have H' := Aside0.mk H
    clear H
    go_wp2_with (first | ((with_reducible refine gate_callee (f := 36) rfl ?_); refine goesL_ (some 17) rfl rfl Tryd.func36 (by kernel_rfl) rfl #[.int .i64 a1] rfl (by (try simp only [List.map_toArray, List.map_cons, List.map_nil]); first | done | rfl | (simp only [List.length_drop, List.length_take]; rfl)) ?_; (with_reducible refine (customsref04_Day.calls a1 false _ A8.out).mono ?_); rintro e w' ⟨rfl, ⟨nd, rfl⟩⟩; refine ⟨_, rfl, ?_⟩))
    go_meet
    case rel => exact ⟨_, (true), (by first | rfl | (simp; done) | (simp [*]; done)), H', ⟨by first | omega | exact Nat.le_refl _⟩, ⟨by (with_reducible repeat (first | refine blk_drewN ?_ _ | refine blk_drew ?_ | refine blk_alloc ?_ _)); exact BK338.out⟩, ⟨by repeat (first | (with_reducible first | exact HB.out | apply below_alloc | apply pw_below_drewN | apply below_drew1 | refine below_set ?_ GE338.out) | exact HB.out)⟩⟩
  case rest =>
   clear HC6
   try clear c1
   try clear c2
   try clear p2
   try clear c3
   try clear c5
   try clear c5b0
   try clear c5b1
   try clear c9
   try clear c11
   try clear c13
   try clear hcz15_0
   try clear hcz15_1
   try clear hcz15_2
   try clear hcz16_0
   try clear hcz16_1
   try clear hcz16_2
   try clear hcz17_0
   try clear hcz17_1
   try clear hcz17_2
   try clear hfz15_0
   try clear hfz15_1
   try clear hfz15_2
   try clear hfz16_0
   try clear hfz16_1
   try clear hfz16_2
   try clear hfz17_0
   try clear hfz17_1
   try clear hfz17_2
   obtain ⟨kq, x36_5, rfl, HA, HJ5, BK338, HB⟩ := hcut
   cases kq with
   | zero => exact absurd HA.out (by simp [customsref04_Deadline.j0])
   | succ kj5 =>
    have H := HA.out
    clear HA
    simp only [customsref04_Deadline.j0] at H
    by_cases c18 : x36_5 = true
    ·
     subst c18
     have H1 : (some (0, 2)) = some (r1, r2) := by rw [if_pos rfl] at H; exact H
     clear H
     have H := H1
     clear H1
     simp only [Option.some.injEq, Prod.mk.injEq] at H
     obtain ⟨rfl, rfl⟩ := H
     go_wp2
     go_ret2
     exact ⟨by first | rfl | (simp [errW_none, errW_some] <;> rfl) | (simp [*, errW_none, errW_some] <;> rfl), by repeat (first | (with_reducible first | exact HB.out | apply below_alloc | apply pw_below_drewN | apply below_drew1 | refine below_set ?_ GE338.out) | exact HB.out)⟩
    ·
     replace c18 := Bool.eq_false_iff.mpr c18
     subst c18
     have H1 : ((customsref04_AddMonths.f kj5 a1 a2_0).bind fun bt344 => (if bt344.2 = 0 then ((customsref04_Day.f (wrap64 (bt344.1 + a2_1))).bind fun t346 => (customsref04_Deadline.j1 kj5 l0 bt344.1 (!t346) a2_0 a2_1 a2_2)) else (customsref04_Deadline.j1 kj5 l0 bt344.1 true a2_0 a2_1 a2_2))) = some (r1, r2) := by rw [if_neg (show ¬ (false = true) by decide)] at H; exact H
     clear H
     have H := H1
     clear H1
     replace H := Option.bind_eq_some_iff.mp H
     obtain ⟨⟨t344, t345⟩, A190, H⟩ := H
     replace H : (if t345 = 0 then ((customsref04_Day.f (wrap64 (t344 + a2_1))).bind fun t346 => (customsref04_Deadline.j1 kj5 l0 t344 (!t346) a2_0 a2_1 a2_2)) else (customsref04_Deadline.j1 kj5 l0 t344 true a2_0 a2_1 a2_2)) = some (r1, r2) := H
     have A19 := Aside0.mk A190
     clear A190
     have HC20 := Aside0.mk H
     clear H
     have hcz21_0 : wc.cell? ⟨gb338, 0, none⟩ = some (.int .i64 a2_0) := (blk_cell BK338.out 0).trans rfl
     have hcz21_1 : wc.cell? ⟨gb338, 1, none⟩ = some (.int .i64 a2_1) := (blk_cell BK338.out 1).trans rfl
     have hcz21_2 : wc.cell? ⟨gb338, 2, none⟩ = some (.int .i64 a2_2) := (blk_cell BK338.out 2).trans rfl
     have hfz21_0 := blk_frozen BK338.out 0
     have hfz21_1 := blk_frozen BK338.out 1
     have hfz21_2 := blk_frozen BK338.out 2
     go_upto_region 7 with (first | ((with_reducible refine gate_callee (f := 21) rfl ?_); refine goesL_ (some 41) rfl rfl Tryd.func21 (by kernel_rfl) rfl #[.int .i64 a1, .int .i64 a2_0] rfl (by (try simp only [List.map_toArray, List.map_cons, List.map_nil]); first | done | rfl | (simp only [List.length_drop, List.length_take]; rfl)) ?_; (with_reducible refine (customsref04_AddMonths.calls kj5 a1 a2_0 t344 t345 _ A19.out).mono ?_); rintro e w22 ⟨rfl, hb⟩; refine ⟨_, rfl, ?_⟩; have n0_ := Aside0.mk (blk_below (g := gb338) (o := .cells #[.int .i64 a2_0, .int .i64 a2_1, .int .i64 a2_2] 41 (0, 0)) (by (with_reducible repeat (first | refine blk_drewN ?_ _ | refine blk_drew ?_ | refine blk_alloc ?_ _)); exact BK338.out) hb); have n1_ := Aside0.mk (below_step (by repeat (first | (with_reducible first | exact HB.out | apply below_alloc | apply pw_below_drewN | apply below_drew1 | refine below_set ?_ GE338.out) | exact HB.out)) hb); clear BK338; clear HB; have BK338 := n0_; have HB := n1_; clear n0_ n1_; (try clear hb); (try clear hb2); (try clear hk); (try clear hi)))
     (try simp only [Act.put, List.setIfInBounds_toArray, List.set_cons_zero, List.set_cons_succ])
     go_cut [53] (fun v53 wc => ∃ (kq : Nat) (x53_19 : Bool), v53 = .bool x53_19 ∧ Aside0 (customsref04_Deadline.j1 kq l0 t344 x53_19 a2_0 a2_1 a2_2 = some (r1, r2)) ∧ Aside0 (kq ≤ kj5) ∧ Aside0 (wc.heap[gb338]? = some (.cells #[.int .i64 a2_0, .int .i64 a2_1, .int .i64 a2_2] 41 (0, 0))) ∧ Aside0 (Below w.heap.size w wc))
     case first =>
      have H := HC20.out
      clear HC20
      by_cases c23 : t345 = 0
      ·
       rw [if_pos c23] at H
       have c23b0 : (t345 == 0) = true := beq_iff_eq.mpr c23
       have c23b1 : (t345 != 0) = false := bne_eq_false_iff_eq.mpr c23
       clear c23
       (first | rw [c23b0] | (simp only [i64_w, i32_w]; rw [c23b0]) | skip)
       replace H := Option.bind_eq_some_iff.mp H
       obtain ⟨t346, A240, H⟩ := H
       replace H : (customsref04_Deadline.j1 kj5 l0 t344 (!t346) a2_0 a2_1 a2_2) = some (r1, r2) := H
       have A24 := Aside0.mk A240
       clear A240
       have H' := Aside0.mk H
       clear H
       have hcz25_0 : w22.cell? ⟨gb338, 0, none⟩ = some (.int .i64 a2_0) := (blk_cell BK338.out 0).trans rfl
       have hcz25_1 : w22.cell? ⟨gb338, 1, none⟩ = some (.int .i64 a2_1) := (blk_cell BK338.out 1).trans rfl
       have hcz25_2 : w22.cell? ⟨gb338, 2, none⟩ = some (.int .i64 a2_2) := (blk_cell BK338.out 2).trans rfl
       have hfz25_0 := blk_frozen BK338.out 0
       have hfz25_1 := blk_frozen BK338.out 1
       have hfz25_2 := blk_frozen BK338.out 2
       go_wp2_with (first | (go_at_call 36; (with_reducible refine (customsref04_Day.calls (wrap64 (t344 + a2_1)) t346 _ A24.out).mono ?_); rintro e w' ⟨rfl, ⟨nd, rfl⟩⟩))
       go_meet
       case rel => exact ⟨_, (!t346), (by first | rfl | (simp; done) | (simp [*]; done)), H', ⟨by have := HJ5.out; first | omega | exact Nat.le_refl _⟩, ⟨by (with_reducible repeat (first | refine blk_drewN ?_ _ | refine blk_drew ?_ | refine blk_alloc ?_ _)); exact BK338.out⟩, ⟨by repeat (first | (with_reducible first | exact HB.out | apply below_alloc | apply pw_below_drewN | apply below_drew1 | refine below_set ?_ GE338.out) | exact HB.out)⟩⟩
      ·
       rw [if_neg c23] at H
       have c23b0 : (t345 == 0) = false := beq_eq_false_iff_ne.mpr c23
       have c23b1 : (t345 != 0) = true := bne_iff_ne.mpr c23
       (first | rw [c23b0] | (simp only [i64_w, i32_w]; rw [c23b0]) | skip)
       have H' := Aside0.mk H
       clear H
       go_wp2
       go_meet
       case rel => exact ⟨_, (true), (by first | rfl | (simp; done) | (simp [*]; done)), H', ⟨by have := HJ5.out; first | omega | exact Nat.le_refl _⟩, ⟨by (with_reducible repeat (first | refine blk_drewN ?_ _ | refine blk_drew ?_ | refine blk_alloc ?_ _)); exact BK338.out⟩, ⟨by repeat (first | (with_reducible first | exact HB.out | apply below_alloc | apply pw_below_drewN | apply below_drew1 | refine below_set ?_ GE338.out) | exact HB.out)⟩⟩
     case rest =>
      clear HC20
      try clear c1
      try clear c2
      try clear p2
      try clear c3
      try clear c5
      try clear c5b0
      try clear c5b1
      try clear p6
      try clear c9
      try clear c11
      try clear c13
      try clear c18
      try clear c21
      try clear c23
      try clear c23b0
      try clear c23b1
      try clear c24
      try clear hcz15_0
      try clear hcz15_1
      try clear hcz15_2
      try clear hcz16_0
      try clear hcz16_1
      try clear hcz16_2
      try clear hcz17_0
      try clear hcz17_1
      try clear hcz17_2
      try clear hcz21_0
      try clear hcz21_1
      try clear hcz21_2
      try clear hcz25_0
      try clear hcz25_1
      try clear hcz25_2
      try clear hfz15_0
      try clear hfz15_1
      try clear hfz15_2
      try clear hfz16_0
      try clear hfz16_1
      try clear hfz16_2
      try clear hfz17_0
      try clear hfz17_1
      try clear hfz17_2
      try clear hfz21_0
      try clear hfz21_1
      try clear hfz21_2
      try clear hfz25_0
      try clear hfz25_1
      try clear hfz25_2
      try clear p2
      obtain ⟨kq, x53_19, rfl, HA, HJ19, BK338, HB⟩ := hcut
      cases kq with
      | zero => exact absurd HA.out (by simp [customsref04_Deadline.j1])
      | succ kj19 =>
       have H := HA.out
       clear HA
       simp only [customsref04_Deadline.j1] at H
       by_cases c26 : x53_19 = true
       ·
        subst c26
        have H1 : (some (0, 3)) = some (r1, r2) := by rw [if_pos rfl] at H; exact H
        clear H
        have H := H1
        clear H1
        simp only [Option.some.injEq, Prod.mk.injEq] at H
        obtain ⟨rfl, rfl⟩ := H
        go_wp2
        go_ret2
        exact ⟨by first | rfl | (simp [errW_none, errW_some] <;> rfl) | (simp [*, errW_none, errW_some] <;> rfl), by repeat (first | (with_reducible first | exact HB.out | apply below_alloc | apply pw_below_drewN | apply below_drew1 | refine below_set ?_ GE338.out) | exact HB.out)⟩
       ·
        replace c26 := Bool.eq_false_iff.mpr c26
        subst c26
        have H1 : ((customsref04_AddWorking.f kj19 l0 (wrap64 (t344 + a2_1)) a2_2).bind fun bt347 => (if bt347.2 = 0 then ((customsref04_NextWorking.f kj19 l0 bt347.1).bind fun bt349 => (some (bt349.1, bt349.2))) else (some (0, bt347.2)))) = some (r1, r2) := by rw [if_neg (show ¬ (false = true) by decide)] at H; exact H
        clear H
        have H := H1
        clear H1
        replace H := Option.bind_eq_some_iff.mp H
        obtain ⟨⟨t347, t348⟩, A270, H⟩ := H
        replace H : (if t348 = 0 then ((customsref04_NextWorking.f kj19 l0 t347).bind fun bt349 => (some (bt349.1, bt349.2))) else (some (0, t348))) = some (r1, r2) := H
        have A27 := Aside0.mk A270
        clear A270
        by_cases c28 : t348 = 0
        ·
         rw [if_pos c28] at H
         have c28b0 : (t348 == 0) = true := beq_iff_eq.mpr c28
         have c28b1 : (t348 != 0) = false := bne_eq_false_iff_eq.mpr c28
         clear c28
         replace H := Option.bind_eq_some_iff.mp H
         obtain ⟨⟨t349, t350⟩, A290, H⟩ := H
         replace H : (some (t349, t350)) = some (r1, r2) := H
         have A29 := Aside0.mk A290
         clear A290
         simp only [Option.some.injEq, Prod.mk.injEq] at H
         obtain ⟨rfl, rfl⟩ := H
         have hcz30_0 : wc.cell? ⟨gb338, 0, none⟩ = some (.int .i64 a2_0) := (blk_cell BK338.out 0).trans rfl
         have hcz30_1 : wc.cell? ⟨gb338, 1, none⟩ = some (.int .i64 a2_1) := (blk_cell BK338.out 1).trans rfl
         have hcz30_2 : wc.cell? ⟨gb338, 2, none⟩ = some (.int .i64 a2_2) := (blk_cell BK338.out 2).trans rfl
         have hfz30_0 := blk_frozen BK338.out 0
         have hfz30_1 := blk_frozen BK338.out 1
         have hfz30_2 := blk_frozen BK338.out 2
         go_wp2_with (first | ((with_reducible refine gate_callee (f := 32) rfl ?_); refine goesL_ (some 62) rfl rfl Tryd.func32 (by kernel_rfl) rfl #[.slice A0 l0.length c0, .int .i64 (wrap64 (t344 + a2_1)), .int .i64 a2_2] rfl (by (try simp only [List.map_toArray, List.map_cons, List.map_nil]); first | done | rfl | (simp only [List.length_drop, List.length_take]; rfl)) ?_; (with_reducible refine (customsref04_AddWorking.calls kj19 _ _ l0 (wrap64 (t344 + a2_1)) a2_2 t347 t348 _ ?side1 ?side2 A27.out).mono ?_); (case side1 => repeat (first | exact (Kd.C_below HR0.out HB.out) | (with_reducible refine Kd.C_alloc ?_ _) | (with_reducible refine Kd.C_drewN ?_ _) | (with_reducible refine Kd.C_drew ?_))); (case side2 => exact HC0.out); rintro e w' ⟨rfl, ⟨nd, rfl⟩⟩; refine ⟨_, rfl, ?_⟩) | ((with_reducible refine gate_callee (f := 31) rfl ?_); refine goesL_ (some 70) rfl rfl Tryd.func31 (by kernel_rfl) rfl #[.slice A0 l0.length c0, .int .i64 t347] rfl (by (try simp only [List.map_toArray, List.map_cons, List.map_nil]); first | done | rfl | (simp only [List.length_drop, List.length_take]; rfl)) ?_; (with_reducible refine (customsref04_NextWorking.calls kj19 _ _ l0 t347 t349 t350 _ ?side1 ?side2 A29.out).mono ?_); (case side1 => repeat (first | exact (Kd.C_below HR0.out (by repeat (first | (with_reducible first | exact HB.out | apply below_alloc | apply pw_below_drewN | apply below_drew1 | refine below_set ?_ GE338.out) | exact HB.out))) | (with_reducible refine Kd.C_alloc ?_ _) | (with_reducible refine Kd.C_drewN ?_ _) | (with_reducible refine Kd.C_drew ?_))); (case side2 => exact HC0.out); rintro e w' ⟨rfl, ⟨nd, rfl⟩⟩; refine ⟨_, rfl, ?_⟩))
         go_ret2
         exact ⟨by first | rfl | (simp [errW_none, errW_some] <;> rfl) | (simp [*, errW_none, errW_some] <;> rfl), by repeat (first | (with_reducible first | exact HB.out | apply below_alloc | apply pw_below_drewN | apply below_drew1 | refine below_set ?_ GE338.out) | exact HB.out)⟩
        ·
         rw [if_neg c28] at H
         have c28b0 : (t348 == 0) = false := beq_eq_false_iff_ne.mpr c28
         have c28b1 : (t348 != 0) = true := bne_iff_ne.mpr c28
         simp only [Option.some.injEq, Prod.mk.injEq] at H
         obtain ⟨rfl, rfl⟩ := H
         have hcz31_0 : wc.cell? ⟨gb338, 0, none⟩ = some (.int .i64 a2_0) := (blk_cell BK338.out 0).trans rfl
         have hcz31_1 : wc.cell? ⟨gb338, 1, none⟩ = some (.int .i64 a2_1) := (blk_cell BK338.out 1).trans rfl
         have hcz31_2 : wc.cell? ⟨gb338, 2, none⟩ = some (.int .i64 a2_2) := (blk_cell BK338.out 2).trans rfl
         have hfz31_0 := blk_frozen BK338.out 0
         have hfz31_1 := blk_frozen BK338.out 1
         have hfz31_2 := blk_frozen BK338.out 2
         go_wp2_with (first | ((with_reducible refine gate_callee (f := 32) rfl ?_); refine goesL_ (some 62) rfl rfl Tryd.func32 (by kernel_rfl) rfl #[.slice A0 l0.length c0, .int .i64 (wrap64 (t344 + a2_1)), .int .i64 a2_2] rfl (by (try simp only [List.map_toArray, List.map_cons, List.map_nil]); first | done | rfl | (simp only [List.length_drop, List.length_take]; rfl)) ?_; (with_reducible refine (customsref04_AddWorking.calls kj19 _ _ l0 (wrap64 (t344 + a2_1)) a2_2 t347 t348 _ ?side1 ?side2 A27.out).mono ?_); (case side1 => repeat (first | exact (Kd.C_below HR0.out HB.out) | (with_reducible refine Kd.C_alloc ?_ _) | (with_reducible refine Kd.C_drewN ?_ _) | (with_reducible refine Kd.C_drew ?_))); (case side2 => exact HC0.out); rintro e w' ⟨rfl, ⟨nd, rfl⟩⟩; refine ⟨_, rfl, ?_⟩))
         go_ret2
         exact ⟨by first | rfl | (simp [errW_none, errW_some] <;> rfl) | (simp [*, errW_none, errW_some] <;> rfl), by repeat (first | (with_reducible first | exact HB.out | apply below_alloc | apply pw_below_drewN | apply below_drew1 | refine below_set ?_ GE338.out) | exact HB.out)⟩
 ·
  rw [if_neg c5] at H
  have c5b0 : (t339 == 0) = false := beq_eq_false_iff_ne.mpr c5
  have c5b1 : (t339 != 0) = true := bne_iff_ne.mpr c5
  simp only [Option.some.injEq, Prod.mk.injEq] at H
  obtain ⟨rfl, rfl⟩ := H
  go_enter Tryd.func24, Tryd.ntmps24
  go_wp2_with (first | ((with_reducible refine gate_dst (N := 5) rfl ?_); refine box_event ?hg (N := 5) ?hd (cs := #[.int .i64 a2_0, .int .i64 a2_1, .int .i64 a2_2]) (t := 41) ?hr ?_; (case hd => rfl); (case hg => rfl); (case hr => first | (go_simp; done) | (go_simp; rfl)); intro gb338 hg w32 hbox hb; have n0_ := Aside0.mk (below_step (by repeat (first | (with_reducible first | exact HB.out | apply below_alloc | apply pw_below_drewN | apply below_drew1) | exact HB.out)) hb); have n1_ := Aside0.mk (hbox); have n2_ := Aside0.mk ((by rw [hg]; exact (below_size (by repeat (first | (with_reducible first | exact HB.out | apply below_alloc | apply pw_below_drewN | apply below_drew1) | exact HB.out))) : w.heap.size ≤ gb338)); have n3_ := Aside0.mk ((by rw [hg]; exact (below_size (by repeat (first | (with_reducible first | exact HB.out | apply below_alloc | apply pw_below_drewN | apply below_drew1) | exact HB.out))) : w.heap.size ≤ gb338)); clear HB; have HB := n0_; have BK338 := n1_; have GW338 := n2_; have GE338 := n3_; clear n0_ n1_ n2_ n3_; clear hb hbox hg) | ((with_reducible refine gate_callee (f := 28) rfl ?_); refine goesL_ (some 12) rfl rfl Tryd.func28 (by kernel_rfl) rfl #[.slice A0 l0.length c0] rfl (by (try simp only [List.map_toArray, List.map_cons, List.map_nil]); first | done | rfl | (simp only [List.length_drop, List.length_take]; rfl)) ?_; (with_reducible refine (customsref04_Valid.calls k _ _ l0 t339 _ ?side1 ?side2 A4.out).mono ?_); (case side1 => repeat (first | exact (Kd.C_below HR0.out HB.out) | (with_reducible refine Kd.C_alloc ?_ _) | (with_reducible refine Kd.C_drewN ?_ _) | (with_reducible refine Kd.C_drew ?_))); (case side2 => exact HC0.out); rintro e w' ⟨rfl, ⟨nd, rfl⟩⟩; refine ⟨_, rfl, ?_⟩))
  go_ret2
  exact ⟨by first | rfl | (simp [errW_none, errW_some] <;> rfl) | (simp [*, errW_none, errW_some] <;> rfl), by repeat (first | (with_reducible first | exact HB.out | apply below_alloc | apply pw_below_drewN | apply below_drew1 | refine below_set ?_ GE338.out) | exact HB.out)⟩

end Go.Proofs.YtlmcejiebobfbaaDoor.G

