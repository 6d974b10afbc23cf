-- Written by a program of this session (wip/tools/gprint.py) for this claim; Lean checks it.
import Derived.Test.YtlmcejiebobfbaaDoorGx0
import Derived.Test.YtlmcejiebobfbaaDoorGCalendarvalid
import Derived.Test.YtlmcejiebobfbaaDoorGCalendarAddMonths
import Derived.Test.YtlmcejiebobfbaaDoorGCalendarValid
import Derived.Test.YtlmcejiebobfbaaDoorGCalendarnext
import Derived.Test.YtlmcejiebobfbaaDoorGCalendaradd
namespace Go.Proofs.YtlmcejiebobfbaaDoor.G
open Go.RowKit Go.Proofs.YtlmcejiebobfbaaDoorW.PrintWords Go.Proofs.YtlmcejiebobfbaaDoorW.PrintLast Go.Proofs.YtlmcejiebobfbaaDoorW.PrintMore
attribute [local go_sem] max2_int min2_int max_two min_two max_three min_three max_four min_four   -- for this text's walks alone
set_option linter.unusedVariables false
set_option linter.unusedSimpArgs false

/-! ### calendar_Deadline: function 23 -/
def dlRest (k : Nat) (l0 : List Int) (a1 t0 t1 t2 : Int) : Option (Int × Int) :=
  (calendar_AddMonths.f k a1 t0).bind fun r => if r.2 = 0 then ((calendar_valid.f (wrap64 (r.1 + t1))).bind fun v => if v = true then ((calendar_add.f k l0 (wrap64 (r.1 + t1)) t2).bind fun s => if s.2 = 0 then calendar_next.f k l0 s.1 else some (0, s.2)) else some (0, 3)) else some (0, r.2)
def dlOk (t : Int) : Prop := 0 ≤ t ∧ t ≤ 1000
instance (t : Int) : Decidable (dlOk t) := by unfold dlOk; infer_instance
def calendar_Deadline.f (k : Nat) (l0 : List Int) (a1 : Int) (t0 : Int) (t1 : Int) (t2 : Int) : Option (Int × Int) :=
  (calendar_Valid.f k l0).bind fun e => if e = 0 then ((calendar_valid.f a1).bind fun v => if v = true then (if dlOk t0 ∧ dlOk t1 ∧ dlOk t2 then dlRest k l0 a1 t0 t1 t2 else some (0, 2)) else some (0, 2)) else some (0, e)
theorem calendar_Deadline.mono : ∀ a0 a1 a2 a3 a4 k, LeO (calendar_Deadline.f k a0 a1 a2 a3 a4) (calendar_Deadline.f (k + 1) a0 a1 a2 a3 a4) := by
  intro a0 a1 a2 a3 a4 k
  unfold calendar_Deadline.f dlRest
  repeat' first
      | (with_reducible exact calendar_Valid.mono _ _)
      | (with_reducible exact calendar_AddMonths.mono _ _ _)
      | (with_reducible exact calendar_add.mono _ _ _ _)
      | (with_reducible exact calendar_next.mono _ _ _)
      | (with_reducible exact LeO.refl _)
      | (with_reducible refine LeO.ite ?_ ?_)
      | (with_reducible refine LeO.bind ?_ (fun _ => ?_))
/-- What follows the loop over the three numbers, and the loop. -/
theorem dl_at (a b c : Int) (W : World) : (Instr.index 51 (.agg #[.int .i64 a, .int .i64 b, .int .i64 c]) (.int .i64 0)).run Tryd.prog W = .ok (.int .i64 a) W ∧ (Instr.index 51 (.agg #[.int .i64 a, .int .i64 b, .int .i64 c]) (.int .i64 1)).run Tryd.prog W = .ok (.int .i64 b) W ∧ (Instr.index 51 (.agg #[.int .i64 a, .int .i64 b, .int .i64 c]) (.int .i64 2)).run Tryd.prog W = .ok (.int .i64 c) W :=
  ⟨by kernel_rfl, by kernel_rfl, by kernel_rfl⟩
theorem dl_cell (w : World) (cs : Array Value) (t n i : Nat) : ((w.alloc (.cells cs t)).drewN n).cell? ⟨w.heap.size, i, none⟩ = cs[i]? := by
  have e : ((w.alloc (.cells cs t)).drewN n).heap[w.heap.size]? = some (.cells cs t) := by
    show (w.heap.push (.cells cs t))[w.heap.size]? = _
    simp
  unfold World.cell?
  rw [e]
  rfl
/-- One number of the three. -/
theorem dl_bad {t : Int} (h : ¬ dlOk t) : t < 0 ∨ ¬ t < 0 ∧ 1000 < t := by unfold dlOk at h; omega
set_option maxHeartbeats 8000000 in
set_option maxRecDepth 100000 in
theorem calendar_Deadline.calls (k : Nat) (A0 : Option Addr) (c0 : Nat) (l0 : List Int) (a1 : Int) (t0 : Int) (t1 : Int) (t2 : Int) (r1 : Int) (r2 : Int) (w : World) (hr0 : Kd.C (Kd.int .i64) w A0 l0.length l0) (hc0 : l0.length ≤ c0) (hG_lengths : GL_lengths w) (h : calendar_Deadline.f k l0 a1 t0 t1 t2 = some (r1, r2)) :
    Calls Tryd.prog 23 #[.slice A0 l0.length c0, .int .i64 a1, .agg #[.int .i64 t0, .int .i64 t1, .int .i64 t2]] w fun e w' => e = .returned (.tuple #[.int .i64 r1, .int .i64 r2]) ∧ Below w.heap.size w w' := by
  have hu41 := Tryd.underlying41
  unfold calendar_Deadline.f at h
  obtain ⟨e, A20, h⟩ := Option.bind_eq_some_iff.mp h
  have A2 := Aside0.mk A20
  have HR := Aside0.mk hr0
  have HG := Aside0.mk hG_lengths
  clear A20 hr0 hG_lengths
  have HB0 := Aside0.mk ((Below.refl w.heap.size w).alloc (Nat.le_refl _) (.cells #[.int .i64 t0, .int .i64 t1, .int .i64 t2] 41))
  by_cases c1 : e = 0
  · rw [if_pos c1] at h
    subst c1
    obtain ⟨v, A30, h⟩ := Option.bind_eq_some_iff.mp h
    have A3 := Aside0.mk A30
    clear A30
    cases v with
    | false =>
      rw [if_neg (by decide)] at h
      simp only [Option.some.injEq, Prod.mk.injEq] at h
      obtain ⟨rfl, rfl⟩ := h
      go_enter Tryd.func23, Tryd.ntmps23
      go_wp2_with (first | (go_at_call 27; (with_reducible refine (calendar_Valid.calls k _ _ l0 0 _ ?c1 hc0 A2.out).mono ?_); (case c1 => exact Kd.C_below HR.out HB0.out); rintro e w' ⟨rfl, ⟨nd, rfl⟩⟩) | (go_at_call 33; (with_reducible refine (calendar_valid.calls a1 false _ A3.out).mono ?_); rintro e w' ⟨rfl, ⟨nd, rfl⟩⟩))
      go_ret2
      exact ⟨rfl, by repeat (first | exact HB0.out | apply pw_below_drewN)⟩
    | true =>
      rw [if_pos rfl] at h
      have C0 := fun W => (dl_at t0 t1 t2 W).1
      have C1 := fun W => (dl_at t0 t1 t2 W).2.1
      have C2 := fun W => (dl_at t0 t1 t2 W).2.2
      have H := Aside0.mk h
      clear h
      go_enter Tryd.func23, Tryd.ntmps23
      go_wp2_with (first | (go_at_call 27; (with_reducible refine (calendar_Valid.calls k _ _ l0 0 _ ?c1 hc0 A2.out).mono ?_); (case c1 => exact Kd.C_below HR.out HB0.out); rintro e w' ⟨rfl, ⟨nd, rfl⟩⟩) | (go_at_call 33; (with_reducible refine (calendar_valid.calls a1 true _ A3.out).mono ?_); rintro e w' ⟨rfl, ⟨nd, rfl⟩⟩))
      go_loop [27] (fun v => v = .int .i64 0 ∨ (v = .int .i64 1 ∧ Aside0 (dlOk t0)) ∨ (v = .int .i64 2 ∧ Aside0 (dlOk t0) ∧ Aside0 (dlOk t1)) ∨ (v = .int .i64 3 ∧ Aside0 (dlOk t0) ∧ Aside0 (dlOk t1) ∧ Aside0 (dlOk t2))) (fun v => 3 - (intOf v).toNat)
      case atStart => exact .inl rfl
      case round =>
        rcases hrel with rfl | ⟨rfl, P0⟩ | ⟨rfl, P0, P1⟩ | ⟨rfl, P0, P1, P2⟩
        · by_cases d : dlOk t0
          · have e1 : decide (t0 < 0) = false := decide_eq_false (by unfold dlOk at d; omega)
            have e2 : decide (1000 < t0) = false := decide_eq_false (by unfold dlOk at d; omega)
            have P0 := Aside0.mk d
            clear d
            go_wp2
            go_round
            case rel => exact .inr (.inl ⟨rfl, P0⟩)
            case measure => simp [intOf]
          · have hn : ¬ (dlOk t0 ∧ dlOk t1 ∧ dlOk t2) := fun h => d h.1
            have H1 := H.out
            rw [if_neg hn] at H1
            simp only [Option.some.injEq, Prod.mk.injEq] at H1
            obtain ⟨rfl, rfl⟩ := H1
            clear H hn
            rcases dl_bad d with d1 | ⟨d1, d2⟩
            · have e1 : decide (t0 < 0) = true := decide_eq_true d1
              clear d d1
              go_wp2
              go_ret2
              exact ⟨rfl, by repeat (first | exact HB0.out | apply pw_below_drewN)⟩
            · have e1 : decide (t0 < 0) = false := decide_eq_false d1
              have e2 : decide (1000 < t0) = true := decide_eq_true d2
              clear d d1 d2
              go_wp2
              go_ret2
              exact ⟨rfl, by repeat (first | exact HB0.out | apply pw_below_drewN)⟩
        · by_cases d : dlOk t1
          · have e1 : decide (t1 < 0) = false := decide_eq_false (by unfold dlOk at d; omega)
            have e2 : decide (1000 < t1) = false := decide_eq_false (by unfold dlOk at d; omega)
            have P1 := Aside0.mk d
            clear d
            go_wp2
            go_round
            case rel => exact .inr (.inr (.inl ⟨rfl, P0, P1⟩))
            case measure => simp [intOf]
          · have hn : ¬ (dlOk t0 ∧ dlOk t1 ∧ dlOk t2) := fun h => d h.2.1
            have H1 := H.out
            rw [if_neg hn] at H1
            simp only [Option.some.injEq, Prod.mk.injEq] at H1
            obtain ⟨rfl, rfl⟩ := H1
            clear H hn
            rcases dl_bad d with d1 | ⟨d1, d2⟩
            · have e1 : decide (t1 < 0) = true := decide_eq_true d1
              clear d d1
              go_wp2
              go_ret2
              exact ⟨rfl, by repeat (first | exact HB0.out | apply pw_below_drewN)⟩
            · have e1 : decide (t1 < 0) = false := decide_eq_false d1
              have e2 : decide (1000 < t1) = true := decide_eq_true d2
              clear d d1 d2
              go_wp2
              go_ret2
              exact ⟨rfl, by repeat (first | exact HB0.out | apply pw_below_drewN)⟩
        · by_cases d : dlOk t2
          · have e1 : decide (t2 < 0) = false := decide_eq_false (by unfold dlOk at d; omega)
            have e2 : decide (1000 < t2) = false := decide_eq_false (by unfold dlOk at d; omega)
            have P2 := Aside0.mk d
            clear d
            go_wp2
            go_round
            case rel => exact .inr (.inr (.inr ⟨rfl, P0, P1, P2⟩))
            case measure => simp [intOf]
          · have hn : ¬ (dlOk t0 ∧ dlOk t1 ∧ dlOk t2) := fun h => d h.2.2
            have H1 := H.out
            rw [if_neg hn] at H1
            simp only [Option.some.injEq, Prod.mk.injEq] at H1
            obtain ⟨rfl, rfl⟩ := H1
            clear H hn
            rcases dl_bad d with d1 | ⟨d1, d2⟩
            · have e1 : decide (t2 < 0) = true := decide_eq_true d1
              clear d d1
              go_wp2
              go_ret2
              exact ⟨rfl, by repeat (first | exact HB0.out | apply pw_below_drewN)⟩
            · have e1 : decide (t2 < 0) = false := decide_eq_false d1
              have e2 : decide (1000 < t2) = true := decide_eq_true d2
              clear d d1 d2
              go_wp2
              go_ret2
              exact ⟨rfl, by repeat (first | exact HB0.out | apply pw_below_drewN)⟩
        · have H1 := H.out
          rw [if_pos ⟨P0.out, P1.out, P2.out⟩] at H1
          clear H
          unfold dlRest at H1
          obtain ⟨⟨x, e⟩, A40, H1⟩ := Option.bind_eq_some_iff.mp H1
          have A4 := Aside0.mk A40
          clear A40
          by_cases c4 : e = 0
          · rw [if_pos c4] at H1
            subst c4
            obtain ⟨v, A50, H1⟩ := Option.bind_eq_some_iff.mp H1
            have A5 := Aside0.mk A50
            clear A50
            cases v with
            | true =>
              rw [if_pos rfl] at H1
              obtain ⟨⟨y, e⟩, A60, H1⟩ := Option.bind_eq_some_iff.mp H1
              have A6 := Aside0.mk A60
              clear A60
              by_cases c5 : e = 0
              · rw [if_pos c5] at H1
                subst c5
                have A7 := Aside0.mk H1
                clear H1
                go_wp2_with fail
                refine (calendar_AddMonths.calls k a1 t0 x 0 _ ?_ A4.out).mono ?_
                · exact GL_lengths.of_below (by repeat (first | exact HB0.out | apply pw_below_drewN | apply below_drew1)) HG.out
                rintro e' w5 ⟨rfl, hb⟩
                have hc1 : w5.cell? ⟨w.heap.size, 1, none⟩ = some (.int .i64 t1) := (hb.cell (p := ⟨w.heap.size, 1, none⟩) (by simp)).trans (dl_cell w _ _ _ _)
                have hc2 : w5.cell? ⟨w.heap.size, 2, none⟩ = some (.int .i64 t2) := (hb.cell (p := ⟨w.heap.size, 2, none⟩) (by simp)).trans (dl_cell w _ _ _ _)
                have HB1 := Aside0.mk (below_step (by repeat (first | exact HB0.out | apply pw_below_drewN | apply below_drew1)) hb)
                clear hb
                go_wp2_with (first | (go_at_call 33; (with_reducible refine (calendar_valid.calls _ true _ A5.out).mono ?_); rintro e' w' ⟨rfl, ⟨nd, rfl⟩⟩) | (go_at_call 40; (with_reducible refine (calendar_add.calls k _ _ l0 _ t2 y 0 _ ?c1 hc0 A6.out).mono ?_); (case c1 => exact Kd.C_below HR.out (by repeat (first | exact HB1.out | apply pw_below_drewN | apply below_drew1))); rintro e' w' ⟨rfl, ⟨nd, rfl⟩⟩) | (go_at_call 41; (with_reducible refine (calendar_next.calls k _ _ l0 y r1 r2 _ ?c1 hc0 A7.out).mono ?_); (case c1 => exact Kd.C_below HR.out (by repeat (first | exact HB1.out | apply pw_below_drewN | apply below_drew1))); rintro e' w' ⟨rfl, ⟨nd, rfl⟩⟩))
                go_ret2
                exact ⟨rfl, (by repeat (first | exact HB1.out | apply pw_below_drewN | apply below_drew1))⟩
              · rw [if_neg c5] at H1
                simp only [Option.some.injEq, Prod.mk.injEq] at H1
                obtain ⟨rfl, rfl⟩ := H1
                have c5b : (e != 0) = true := bne_iff_ne.mpr c5
                go_wp2_with fail
                refine (calendar_AddMonths.calls k a1 t0 x 0 _ ?_ A4.out).mono ?_
                · exact GL_lengths.of_below (by repeat (first | exact HB0.out | apply pw_below_drewN | apply below_drew1)) HG.out
                rintro e' w5 ⟨rfl, hb⟩
                have hc1 : w5.cell? ⟨w.heap.size, 1, none⟩ = some (.int .i64 t1) := (hb.cell (p := ⟨w.heap.size, 1, none⟩) (by simp)).trans (dl_cell w _ _ _ _)
                have hc2 : w5.cell? ⟨w.heap.size, 2, none⟩ = some (.int .i64 t2) := (hb.cell (p := ⟨w.heap.size, 2, none⟩) (by simp)).trans (dl_cell w _ _ _ _)
                have HB1 := Aside0.mk (below_step (by repeat (first | exact HB0.out | apply pw_below_drewN | apply below_drew1)) hb)
                clear hb
                go_wp2_with (first | (go_at_call 33; (with_reducible refine (calendar_valid.calls _ true _ A5.out).mono ?_); rintro e' w' ⟨rfl, ⟨nd, rfl⟩⟩) | (go_at_call 40; (with_reducible refine (calendar_add.calls k _ _ l0 _ t2 y e _ ?c1 hc0 A6.out).mono ?_); (case c1 => exact Kd.C_below HR.out (by repeat (first | exact HB1.out | apply pw_below_drewN | apply below_drew1))); rintro e' w' ⟨rfl, ⟨nd, rfl⟩⟩))
                go_ret2
                exact ⟨rfl, (by repeat (first | exact HB1.out | apply pw_below_drewN | apply below_drew1))⟩
            | false =>
              rw [if_neg (by decide)] at H1
              simp only [Option.some.injEq, Prod.mk.injEq] at H1
              obtain ⟨rfl, rfl⟩ := H1
              go_wp2_with fail
              refine (calendar_AddMonths.calls k a1 t0 x 0 _ ?_ A4.out).mono ?_
              · exact GL_lengths.of_below (by repeat (first | exact HB0.out | apply pw_below_drewN | apply below_drew1)) HG.out
              rintro e' w5 ⟨rfl, hb⟩
              have hc1 : w5.cell? ⟨w.heap.size, 1, none⟩ = some (.int .i64 t1) := (hb.cell (p := ⟨w.heap.size, 1, none⟩) (by simp)).trans (dl_cell w _ _ _ _)
              have hc2 : w5.cell? ⟨w.heap.size, 2, none⟩ = some (.int .i64 t2) := (hb.cell (p := ⟨w.heap.size, 2, none⟩) (by simp)).trans (dl_cell w _ _ _ _)
              have HB1 := Aside0.mk (below_step (by repeat (first | exact HB0.out | apply pw_below_drewN | apply below_drew1)) hb)
              clear hb
              go_wp2_with (first | (go_at_call 33; (with_reducible refine (calendar_valid.calls _ false _ A5.out).mono ?_); rintro e' w' ⟨rfl, ⟨nd, rfl⟩⟩))
              go_ret2
              exact ⟨rfl, (by repeat (first | exact HB1.out | apply pw_below_drewN | apply below_drew1))⟩
          · rw [if_neg c4] at H1
            simp only [Option.some.injEq, Prod.mk.injEq] at H1
            obtain ⟨rfl, rfl⟩ := H1
            have c4b : (e != 0) = true := bne_iff_ne.mpr c4
            go_wp2_with fail
            refine (calendar_AddMonths.calls k a1 t0 x e _ ?_ A4.out).mono ?_
            · exact GL_lengths.of_below (by repeat (first | exact HB0.out | apply pw_below_drewN | apply below_drew1)) HG.out
            rintro e' w5 ⟨rfl, hb⟩
            have hc1 : w5.cell? ⟨w.heap.size, 1, none⟩ = some (.int .i64 t1) := (hb.cell (p := ⟨w.heap.size, 1, none⟩) (by simp)).trans (dl_cell w _ _ _ _)
            have hc2 : w5.cell? ⟨w.heap.size, 2, none⟩ = some (.int .i64 t2) := (hb.cell (p := ⟨w.heap.size, 2, none⟩) (by simp)).trans (dl_cell w _ _ _ _)
            have HB1 := Aside0.mk (below_step (by repeat (first | exact HB0.out | apply pw_below_drewN | apply below_drew1)) hb)
            clear hb
            go_wp2
            go_ret2
            exact ⟨rfl, (by repeat (first | exact HB1.out | apply pw_below_drewN | apply below_drew1))⟩
  · rw [if_neg c1] at h
    simp only [Option.some.injEq, Prod.mk.injEq] at h
    obtain ⟨rfl, rfl⟩ := h
    have c1b : (e != 0) = true := bne_iff_ne.mpr c1
    go_enter Tryd.func23, Tryd.ntmps23
    go_wp2_with (first | (go_at_call 27; (with_reducible refine (calendar_Valid.calls k _ _ l0 e _ ?c1 hc0 A2.out).mono ?_); (case c1 => exact Kd.C_below HR.out HB0.out); rintro e w' ⟨rfl, ⟨nd, rfl⟩⟩))
    go_ret2
    exact ⟨rfl, by repeat (first | exact HB0.out | apply pw_below_drewN)⟩

end Go.Proofs.YtlmcejiebobfbaaDoor.G
