/-
  Functions of the program and of the references as plain Lean functions, each with a proof that the machine's call comes to what it answers. Conditions: what each contract states.
-/
import Derived.Test.YtgmedimcejnkjaaDoorProg
import Derived.Below
import Derived.Deep.Draws
import Derived.Deep.AppendLies
import Derived.Maps.AppendAt
import Derived.OwnWalk
import Derived.Laws.BytesArg
import Derived.Laws.MakeOwn
import Derived.Laws.OwnMore
import Derived.Deep.OwnRows
import Derived.Tactics
import Derived.Lib.ConvBytes
import Derived.Laws.Slices
import Derived.WalkKit
import Derived.KernelRfl
import Derived.RowKit3
import Derived.Deep.LoopGhost
import Derived.Deep.QuietTactic
import Derived.BigQuiet
import Derived.WideLaws
import Derived.Deep.DeepCutAuto
import Derived.Deep.CutBlock
import Derived.Deep.RegionHeld3
import Derived.Laws.Rows
import Derived.Lib.AppendStr
import Derived.ArgAppend
import Derived.Laws.IdiomCopy
import Derived.OrdersHeld
import Derived.Laws.BitsLemmas
import Derived.RowKit
import Derived.MapKept
import Derived.MapFrom
import Derived.Maps.OwnSet
import Derived.Test.YtgmedimcejnkjaaDoorQCorew1
namespace Go.Proofs.YtgmedimcejnkjaaDoor.G
open Go.RowKit Go.Proofs.YtgmedimcejnkjaaDoorW.PrintWords Go.Proofs.YtgmedimcejnkjaaDoorW.PrintLast Go.Proofs.YtgmedimcejnkjaaDoorW.PrintMore
attribute [local go_sem] max2_int min2_int max_two min_two max_three min_three max_four min_four   -- for this text's walks alone
set_option linter.unusedVariables false
set_option linter.unusedSimpArgs false

def errW : Option Int → Value
 | none => .nilIface
 | some c => .iface 0 (.int .i64 c)
theorem errW_none : errW none = .nilIface := rfl
theorem errW_some (c : Int) : errW (some c) = .iface 0 (.int .i64 c) := rfl

/-- The package-level table customs/procedure.transitions, as it lies in memory. -/
def cells_transitions : Array Value := #[.int .i64 1, .int .i64 0, .int .i64 1, .int .i64 2, .int .i64 1, .int .i64 2, .int .i64 2, .int .i64 3, .int .i64 2, .int .i64 2, .int .i64 4, .int .i64 2, .int .i64 2, .int .i64 5, .int .i64 2, .int .i64 3, .int .i64 2, .int .i64 1, .int .i64 4, .int .i64 2, .int .i64 13, .int .i64 5, .int .i64 1, .int .i64 3, .int .i64 5, .int .i64 4, .int .i64 3, .int .i64 5, .int .i64 5, .int .i64 3, .int .i64 6, .int .i64 1, .int .i64 4, .int .i64 6, .int .i64 3, .int .i64 4, .int .i64 7, .int .i64 1, .int .i64 5, .int .i64 7, .int .i64 3, .int .i64 5, .int .i64 8, .int .i64 1, .int .i64 6, .int .i64 8, .int .i64 3, .int .i64 6, .int .i64 8, .int .i64 4, .int .i64 6, .int .i64 8, .int .i64 5, .int .i64 6, .int .i64 9, .int .i64 6, .int .i64 7, .int .i64 10, .int .i64 7, .int .i64 6, .int .i64 11, .int .i64 1, .int .i64 8, .int .i64 11, .int .i64 3, .int .i64 8, .int .i64 11, .int .i64 4, .int .i64 8, .int .i64 11, .int .i64 5, .int .i64 8, .int .i64 11, .int .i64 6, .int .i64 9, .int .i64 12, .int .i64 1, .int .i64 10, .int .i64 12, .int .i64 3, .int .i64 10, .int .i64 12, .int .i64 4, .int .i64 10, .int .i64 12, .int .i64 5, .int .i64 10, .int .i64 13, .int .i64 1, .int .i64 11, .int .i64 13, .int .i64 3, .int .i64 11, .int .i64 14, .int .i64 1, .int .i64 12, .int .i64 14, .int .i64 2, .int .i64 12, .int .i64 14, .int .i64 3, .int .i64 12, .int .i64 14, .int .i64 4, .int .i64 12, .int .i64 14, .int .i64 5, .int .i64 12]
def GL_transitions (w : World) : Prop := ∃ t fr, w.heap[0]? = some (.cells cells_transitions t fr)
theorem GL_transitions.drewN {w : World} {n : Nat} (h : GL_transitions w) : GL_transitions (w.drewN n) := h
theorem GL_transitions.drew {w : World} (h : GL_transitions w) : GL_transitions w.drew := h
theorem GL_transitions.lt {w : World} (h : GL_transitions w) : 0 < w.heap.size := by
 obtain ⟨t, fr, h⟩ := h
 exact (Array.getElem?_eq_some_iff.1 h).1
theorem GL_transitions.of_below {w w' : World} (hb : Below w.heap.size w w') (h : GL_transitions w) : GL_transitions w' := by
 have hl := h.lt
 obtain ⟨t, fr, h⟩ := h
 exact ⟨t, fr, (hb.block 0 hl).trans h⟩

/-- The package-level table customs/calendar.lengths, as it lies in memory. -/
def cells_lengths : Array Value := #[.int .i64 31, .int .i64 28, .int .i64 31, .int .i64 30, .int .i64 31, .int .i64 30, .int .i64 31, .int .i64 31, .int .i64 30, .int .i64 31, .int .i64 30, .int .i64 31]
def GL_lengths (w : World) : Prop := ∃ t fr, w.heap[1]? = some (.cells cells_lengths t fr)
theorem GL_lengths.drewN {w : World} {n : Nat} (h : GL_lengths w) : GL_lengths (w.drewN n) := h
theorem GL_lengths.drew {w : World} (h : GL_lengths w) : GL_lengths w.drew := h
theorem GL_lengths.lt {w : World} (h : GL_lengths w) : 1 < w.heap.size := by
 obtain ⟨t, fr, h⟩ := h
 exact (Array.getElem?_eq_some_iff.1 h).1
theorem GL_lengths.of_below {w w' : World} (hb : Below w.heap.size w w') (h : GL_lengths w) : GL_lengths w' := by
 have hl := h.lt
 obtain ⟨t, fr, h⟩ := h
 exact ⟨t, fr, (hb.block 1 hl).trans h⟩

theorem info3 : (Tryd.prog.info? 3).map (fun i => (i.zero, i.size, i.bytes)) = some (some (.int .i64 0), 1, 8) := by kernel_rfl
theorem info29 : (Tryd.prog.info? 29).map (fun i => (i.zero, i.size, i.bytes)) = some (some (.slice none 0 0), 1, 24) := by kernel_rfl
def rd_L1 (xs : List (List Int)) (i : Int) : (List Int) := xs.getD i.toNat ([] : List Int)
theorem at_L1 {w : World} {A : Option Addr} {n : Nat} {xs : List (List Int)} (h : Kd.C (Kd.slice 3 (Kd.int .i64)) w A n xs) (i : Int) (h0 : 0 ≤ i) (h1 : i < n) : ∃ ad A0 c0, A = some ad ∧ w.cell? (ad.add i.toNat) = some (.slice A0 (rd_L1 xs i).length c0) ∧ (rd_L1 xs i).length ≤ c0 ∧ (Kd.int .i64).C w A0 (rd_L1 xs i).length (rd_L1 xs i) := by
 obtain ⟨ad, c, e, _, hK, hc0⟩ := Kd.C_get h ([] : List Int) i h0 h1
 have hc : ∀ j u, c[j]? = some u → w.cell? (ad.add (i.toNat * 1 + j)) = some u := hc0
 obtain ⟨A0, c0, rfl, l0, g0⟩ := hK
 exact ⟨ad, A0, c0, e, by have hq := hc 0 _ rfl; rwa [Nat.mul_one, Nat.add_zero] at hq, l0, g0⟩

def customsmade_Within.f (a0 : Int) (a1 : Int) : Option (Int) := if a1 = 0 then (none) else (some (Int.tmod (wrap64 ((Int.tmod a0 a1) + a1)) a1))
set_option maxHeartbeats 8000000 in
set_option maxRecDepth 100000 in
theorem customsmade_Within.calls (a0 : Int) (a1 : Int) (r : Int) (w : World) (h : customsmade_Within.f a0 a1 = some r) :
  Calls Tryd.prog 9 #[.int .i64 a0, .int .i64 a1] w fun e w' => e = .returned (.int .i64 r) ∧ Drawn0 w w' := by
 have H : (if a1 = 0 then (none) else (some (Int.tmod (wrap64 ((Int.tmod a0 a1) + a1)) a1))) = some r := h
 clear h
 by_cases c3 : a1 = 0
 ·
  rw [if_pos c3] at H
  exact absurd H (by simp)
 ·
  rw [if_neg c3] at H
  have c3b0 : (a1 == 0) = false := beq_eq_false_iff_ne.mpr c3
  have c3b1 : (a1 != 0) = true := bne_iff_ne.mpr c3
  obtain rfl := Option.some.inj H
  go_enter Tryd.func9, Tryd.ntmps9
  go_wp2
  go_ret
  exact ⟨by first | rfl | (simp; done) | (simp [*]; done), by repeat (first | exact Drawn0.refl _ | apply Drawn0.step)⟩

/-- The table of transitions: action, from, to. -/
def transL : List (Int × Int × Int) := [(1, 0, 1), (2, 1, 2), (2, 3, 2), (2, 4, 2), (2, 5, 2), (3, 2, 1), (4, 2, 13), (5, 1, 3), (5, 4, 3), (5, 5, 3), (6, 1, 4), (6, 3, 4), (7, 1, 5), (7, 3, 5), (8, 1, 6), (8, 3, 6), (8, 4, 6), (8, 5, 6), (9, 6, 7), (10, 7, 6), (11, 1, 8), (11, 3, 8), (11, 4, 8), (11, 5, 8), (11, 6, 9), (12, 1, 10), (12, 3, 10), (12, 4, 10), (12, 5, 10), (13, 1, 11), (13, 3, 11), (14, 1, 12), (14, 2, 12), (14, 3, 12), (14, 4, 12), (14, 5, 12)]
def targetIn : List (Int × Int × Int) → Int → Int → Int
 | [], _, _ => -1
 | x :: xs, p, action => if x.1 = action ∧ x.2.1 = p then x.2.2 else targetIn xs p action
def procedure_target.f (a0 : Int) (a1 : Int) : Option (Int) := some (targetIn transL a0 a1)
theorem targetIn_drop (i : Nat) (hi : i < 36) (p action : Int) : targetIn (transL.drop i) p action = if (transL.getD i (0, 0, 0)).1 = action ∧ (transL.getD i (0, 0, 0)).2.1 = p then (transL.getD i (0, 0, 0)).2.2 else targetIn (transL.drop (i + 1)) p action := by
 have hl : transL.length = 36 := rfl
 have hlt : i < transL.length := by omega
 rw [List.drop_eq_getElem_cons hlt]
 have e : transL.getD i (0, 0, 0) = transL[i] := by simp [List.getD_eq_getElem?_getD, List.getElem?_eq_getElem hlt]
 rw [e]
 rfl
theorem trans_at (W : World) (i : Nat) (hi : i < 36) : (Instr.index 54 (.agg cells_transitions) (.int .i64 i)).run Tryd.prog W = .ok (.agg #[.int .i64 (transL.getD i (0, 0, 0)).1, .int .i64 (transL.getD i (0, 0, 0)).2.1, .int .i64 (transL.getD i (0, 0, 0)).2.2]) W := by
 rcases (by omega : i = 0 ∨ i = 1 ∨ i = 2 ∨ i = 3 ∨ i = 4 ∨ i = 5 ∨ i = 6 ∨ i = 7 ∨ i = 8 ∨ i = 9 ∨ i = 10 ∨ i = 11 ∨ i = 12 ∨ i = 13 ∨ i = 14 ∨ i = 15 ∨ i = 16 ∨ i = 17 ∨ i = 18 ∨ i = 19 ∨ i = 20 ∨ i = 21 ∨ i = 22 ∨ i = 23 ∨ i = 24 ∨ i = 25 ∨ i = 26 ∨ i = 27 ∨ i = 28 ∨ i = 29 ∨ i = 30 ∨ i = 31 ∨ i = 32 ∨ i = 33 ∨ i = 34 ∨ i = 35) with rfl | rfl | rfl | rfl | rfl | rfl | rfl | rfl | rfl | rfl | rfl | rfl | rfl | rfl | rfl | rfl | rfl | rfl | rfl | rfl | rfl | rfl | rfl | rfl | rfl | rfl | rfl | rfl | rfl | rfl | rfl | rfl | rfl | rfl | rfl | rfl
 all_goals kernel_rfl
set_option maxHeartbeats 8000000 in
set_option maxRecDepth 100000 in
theorem procedure_target.calls (a0 : Int) (a1 : Int) (r : Int) (w : World) (hG_transitions : GL_transitions w) (h : procedure_target.f a0 a1 = some r) :
  Calls Tryd.prog 25 #[.int .i64 a0, .int .i64 a1] w fun e w' => e = .returned (.int .i64 r) ∧ Below w.heap.size w w' := by
 obtain rfl := Option.some.inj h
 clear h
 have hu53 := Tryd.underlying53
 obtain ⟨tt, fr, hg⟩ := hG_transitions
 have HG := Aside0.mk hg
 clear hg
 have HB := Aside0.mk (Below.refl w.heap.size w)
 obtain ⟨R, hR⟩ : ∃ R, R = targetIn transL a0 a1 := ⟨_, rfl⟩
 rw [← hR]
 have HR := Aside0.mk hR
 clear hR
 go_enter Tryd.func25, Tryd.ntmps25
 go_wp2_with (first | (refine wpList_load_row rfl _ _ rfl _ rfl _ _ _ _ HG.out Tryd.underlying54 rfl (by kernel_rfl) ?_))
 go_loopw [8] (fun v wr => ∃ i : Nat, i ≤ 36 ∧ v = .int .i64 i ∧ Aside0 (targetIn (transL.drop i) a0 a1 = R) ∧ Aside0 (Below w.heap.size w wr)) (fun v _ => 36 - (intOf v).toNat)
 case atStart => exact ⟨0, by omega, rfl, ⟨HR.out.symm⟩, HB⟩
 case round =>
  obtain ⟨i, hi, rfl, HA, HBr⟩ := hrel
  by_cases hlt : i < 36
  ·
   have hx := fun W => trans_at W i hlt
   have hs := targetIn_drop i hlt a0 a1
   obtain ⟨⟨a, f, t⟩, he⟩ : ∃ x, x = transL.getD i (0, 0, 0) := ⟨_, rfl⟩
   rw [← he] at hs hx
   dsimp only at hs hx
   clear he
   rw [HA.out] at hs
   have HS := Aside0.mk hs
   clear hs HA
   have hlt' : decide ((i : Int) < 36) = true := decide_eq_true (by omega)
   by_cases ca : a = a1
   ·
    by_cases cf : f = a0
    ·
     have H1 := HS.out
     rw [if_pos ⟨ca, cf⟩] at H1
     subst H1
     have cab : (a == a1) = true := beq_iff_eq.mpr ca
     have cfb : (f == a0) = true := beq_iff_eq.mpr cf
     clear HS HR ca cf
     go_wp2
     go_ret
     exact ⟨rfl, by repeat (first | exact HBr.out | apply below_alloc | refine below_set ?_ HBr.out.size | apply pw_below_drewN)⟩
    ·
     have H1 := Aside0.mk (HS.out.trans (if_neg (fun h => cf h.2)))
     have cab : (a == a1) = true := beq_iff_eq.mpr ca
     have cfb : (f == a0) = false := beq_eq_false_iff_ne.mpr cf
     clear HS HR ca cf
     go_wp2
     go_roundw
     case rel => exact ⟨i + 1, by omega, by go_num, ⟨H1.out.symm⟩, ⟨by repeat (first | exact HBr.out | apply below_alloc | refine below_set ?_ HBr.out.size | apply pw_below_drewN)⟩⟩
     case measure => simp [intOf]; omega
   ·
    have H1 := Aside0.mk (HS.out.trans (if_neg (fun h => ca h.1)))
    have cab : (a == a1) = false := beq_eq_false_iff_ne.mpr ca
    clear HS HR ca
    go_wp2
    go_roundw
    case rel => exact ⟨i + 1, by omega, by go_num, ⟨H1.out.symm⟩, ⟨by repeat (first | exact HBr.out | apply below_alloc | refine below_set ?_ HBr.out.size | apply pw_below_drewN)⟩⟩
    case measure => simp [intOf]; omega
  ·
   obtain rfl : i = 36 := by omega
   have e : R = -1 := HA.out.symm
   subst e
   clear HA HR
   have hlt' : decide (((36 : Nat) : Int) < 36) = false := rfl
   go_wp2
   go_ret
   exact ⟨rfl, by repeat (first | exact HBr.out | apply below_alloc | refine below_set ?_ HBr.out.size | apply pw_below_drewN)⟩

def procedure_Next.j0 : Nat → Int → Int → Bool → Option (Int × Int)
 | 0, _, _, _ => none
 | k + 1, x0, x1, x20 => if x20 = true then (some (0, 2)) else ((procedure_target.f x0 x1).bind fun t101 => (if t101 = (-1) then (some (0, 17)) else (some (t101, 0))))
def procedure_Next.f (k : Nat) (a0 : Int) (a1 : Int) : Option (Int × Int) := if a0 < 0 then (procedure_Next.j0 k a0 a1 true) else (if a0 ≥ 14 then (procedure_Next.j0 k a0 a1 true) else (if a1 < 1 then (procedure_Next.j0 k a0 a1 true) else (procedure_Next.j0 k a0 a1 (decide (a1 > 14)))))
theorem procedure_Next.mono_l : ∀ k, (∀ y0 y1 y2, LeO (procedure_Next.j0 k y0 y1 y2) (procedure_Next.j0 (k + 1) y0 y1 y2))
 | 0 => fun _ _ _ r h => by simp [procedure_Next.j0] at h
 | k + 1 => by
  have ih0 := procedure_Next.mono_l k
  ·
   intro y0 y1 y2
   unfold procedure_Next.j0
   repeat' first
   | (with_reducible exact ih0 _ _ _)
   | (with_reducible exact LeO.refl _)
   | (with_reducible exact LeO.none _)
   | (with_reducible refine LeO.ite ?_ ?_)
   | (with_reducible refine LeO.bind ?_ (fun _ => ?_))
   | exact ih0 _ _ _
   | exact LeO.none _
   | refine LeO.ite ?_ ?_
   | refine LeO.bind ?_ (fun _ => ?_)
theorem procedure_Next.mono : ∀ a0 a1 k, LeO (procedure_Next.f k a0 a1) (procedure_Next.f (k + 1) a0 a1) := by
 intro a0 a1 k
 have ih0 := procedure_Next.mono_l k
 unfold procedure_Next.f
 repeat' first
   | (with_reducible exact ih0 _ _ _)
   | (with_reducible exact LeO.refl _)
   | (with_reducible exact LeO.none _)
   | (with_reducible refine LeO.ite ?_ ?_)
   | (with_reducible refine LeO.bind ?_ (fun _ => ?_))
   | exact ih0 _ _ _
   | exact LeO.none _
   | refine LeO.ite ?_ ?_
   | refine LeO.bind ?_ (fun _ => ?_)
set_option maxHeartbeats 8000000 in
set_option maxRecDepth 100000 in
theorem procedure_Next.calls (k : Nat) (a0 : Int) (a1 : Int) (r1 : Int) (r2 : Int) (w : World) (hG_transitions : GL_transitions w) (h : procedure_Next.f k a0 a1 = some (r1, r2)) :
  Calls Tryd.prog 10 #[.int .i64 a0, .int .i64 a1] w fun e w' => e = .returned (.tuple #[.int .i64 r1, .int .i64 r2]) ∧ Below w.heap.size w w' := by
 have HG_transitions := Aside0.mk hG_transitions
 clear hG_transitions
 have HB := Aside0.mk (Below.refl w.heap.size w)
 have H : (if a0 < 0 then (procedure_Next.j0 k a0 a1 true) else (if a0 ≥ 14 then (procedure_Next.j0 k a0 a1 true) else (if a1 < 1 then (procedure_Next.j0 k a0 a1 true) else (procedure_Next.j0 k a0 a1 (decide (a1 > 14)))))) = some (r1, r2) := h
 clear h
 have HC3 := Aside0.mk H
 clear H
 go_enter Tryd.func10, Tryd.ntmps10
 go_upto_region 1 with (fail)
 go_cut [20] (fun v20 wc => ∃ (kq : Nat) (x20_2 : Bool), v20 = .bool x20_2 ∧ Aside0 (procedure_Next.j0 kq a0 a1 x20_2 = some (r1, r2)) ∧ Aside0 (kq ≤ k) ∧ Aside0 (Below w.heap.size w wc))
 case first =>
  have H := HC3.out
  clear HC3
  by_cases c4 : a0 < 0
  ·
   rw [if_pos c4] at H
   have c4b0 : decide (a0 < 0) = true := decide_eq_true c4
   clear c4
   (first | rw [c4b0] | (simp only [i64_w, i32_w]; rw [c4b0]) | skip)
   have H' := Aside0.mk H
   clear H
   go_wp2
   go_meet
   case rel => exact ⟨_, (true), (by first | rfl | (simp; done) | (simp [*]; done)), H', ⟨by first | omega | exact Nat.le_refl _⟩, ⟨by repeat (first | (with_reducible first | exact HB.out | apply below_alloc | apply pw_below_drewN | apply below_drew1) | exact HB.out)⟩⟩
  ·
   rw [if_neg c4] at H
   have c4b0 : decide (a0 < 0) = false := decide_eq_false c4
   clear c4
   (first | rw [c4b0] | (simp only [i64_w, i32_w]; rw [c4b0]) | skip)
   by_cases c5 : a0 ≥ 14
   ·
    rw [if_pos c5] at H
    have c5b0 : decide (14 ≤ a0) = true := decide_eq_true c5
    clear c5
    have H' := Aside0.mk H
    clear H
    go_wp2
    go_meet
    case rel => exact ⟨_, (true), (by first | rfl | (simp; done) | (simp [*]; done)), H', ⟨by first | omega | exact Nat.le_refl _⟩, ⟨by repeat (first | (with_reducible first | exact HB.out | apply below_alloc | apply pw_below_drewN | apply below_drew1) | exact HB.out)⟩⟩
   ·
    rw [if_neg c5] at H
    have c5b0 : decide (14 ≤ a0) = false := decide_eq_false c5
    clear c5
    by_cases c6 : a1 < 1
    ·
     rw [if_pos c6] at H
     have c6b0 : decide (a1 < 1) = true := decide_eq_true c6
     clear c6
     have H' := Aside0.mk H
     clear H
     go_wp2
     go_meet
     case rel => exact ⟨_, (true), (by first | rfl | (simp; done) | (simp [*]; done)), H', ⟨by first | omega | exact Nat.le_refl _⟩, ⟨by repeat (first | (with_reducible first | exact HB.out | apply below_alloc | apply pw_below_drewN | apply below_drew1) | exact HB.out)⟩⟩
    ·
     rw [if_neg c6] at H
     have c6b0 : decide (a1 < 1) = false := decide_eq_false c6
     clear c6
     have H' := Aside0.mk H
     clear H
     go_wp2
     go_meet
     case rel => exact ⟨_, (decide (a1 > 14)), (by first | rfl | (simp; done) | (simp [*]; done)), H', ⟨by first | omega | exact Nat.le_refl _⟩, ⟨by repeat (first | (with_reducible first | exact HB.out | apply below_alloc | apply pw_below_drewN | apply below_drew1) | exact HB.out)⟩⟩
 case rest =>
  clear HC3
  try clear c1
  try clear p2
  try clear c4
  try clear c4b0
  try clear c5
  try clear c5b0
  try clear c6
  try clear c6b0
  obtain ⟨kq, x20_2, rfl, HA, HJ2, HB⟩ := hcut
  cases kq with
  | zero => exact absurd HA.out (by simp [procedure_Next.j0])
  | succ kj2 =>
   have H := HA.out
   clear HA
   simp only [procedure_Next.j0] at H
   by_cases c7 : x20_2 = true
   ·
    subst c7
    have H1 : (some (0, 2)) = some (r1, r2) := by rw [if_pos rfl] at H; exact H
    clear H
    have H := H1
    clear H1
    simp only [Option.some.injEq, Prod.mk.injEq] at H
    obtain ⟨rfl, rfl⟩ := H
    go_wp2
    go_ret2
    exact ⟨by first | rfl | (simp [errW_none, errW_some] <;> rfl) | (simp [*, errW_none, errW_some] <;> rfl), by repeat (first | (with_reducible first | exact HB.out | apply below_alloc | apply pw_below_drewN | apply below_drew1) | exact HB.out)⟩
   ·
    replace c7 := Bool.eq_false_iff.mpr c7
    subst c7
    have H1 : ((procedure_target.f a0 a1).bind fun t101 => (if t101 = (-1) then (some (0, 17)) else (some (t101, 0)))) = some (r1, r2) := by rw [if_neg (show ¬ (false = true) by decide)] at H; exact H
    clear H
    have H := H1
    clear H1
    replace H := Option.bind_eq_some_iff.mp H
    obtain ⟨t101, A80, H⟩ := H
    replace H : (if t101 = (-1) then (some (0, 17)) else (some (t101, 0))) = some (r1, r2) := H
    have A8 := Aside0.mk A80
    clear A80
    by_cases c9 : t101 = (-1)
    ·
     rw [if_pos c9] at H
     have c9b0 : (t101 == (-1)) = true := beq_iff_eq.mpr c9
     have c9b1 : (t101 != (-1)) = false := bne_eq_false_iff_eq.mpr c9
     clear c9
     simp only [Option.some.injEq, Prod.mk.injEq] at H
     obtain ⟨rfl, rfl⟩ := H
     go_wp2_with (first | ((with_reducible refine gate_callee (f := 25) rfl ?_); refine goesL_ (some 23) rfl rfl Tryd.func25 (by kernel_rfl) rfl #[.int .i64 a0, .int .i64 a1] rfl (by (try simp only [List.map_toArray, List.map_cons, List.map_nil]); first | done | rfl | (simp only [List.length_drop, List.length_take]; rfl)) ?_; (with_reducible refine (procedure_target.calls a0 a1 t101 _ ?side1 A8.out).mono ?_); (case side1 => exact GL_transitions.of_below (by repeat (first | (with_reducible first | exact HB.out | apply below_alloc | apply pw_below_drewN | apply below_drew1) | exact HB.out)) HG_transitions.out); rintro e w10 ⟨rfl, hb⟩; refine ⟨_, rfl, ?_⟩; have n0_ := Aside0.mk (below_step (by repeat (first | (with_reducible first | exact HB.out | apply below_alloc | apply pw_below_drewN | apply below_drew1) | exact HB.out)) hb); clear HB; have HB := n0_; clear n0_; (try clear hb); (try clear hb2); (try clear hk); (try clear hi)))
     go_ret2
     exact ⟨by first | rfl | (simp [errW_none, errW_some] <;> rfl) | (simp [*, errW_none, errW_some] <;> rfl), by repeat (first | (with_reducible first | exact HB.out | apply below_alloc | apply pw_below_drewN | apply below_drew1) | exact HB.out)⟩
    ·
     rw [if_neg c9] at H
     have c9b0 : (t101 == (-1)) = false := beq_eq_false_iff_ne.mpr c9
     have c9b1 : (t101 != (-1)) = true := bne_iff_ne.mpr c9
     simp only [Option.some.injEq, Prod.mk.injEq] at H
     obtain ⟨rfl, rfl⟩ := H
     go_wp2_with (first | ((with_reducible refine gate_callee (f := 25) rfl ?_); refine goesL_ (some 23) rfl rfl Tryd.func25 (by kernel_rfl) rfl #[.int .i64 a0, .int .i64 a1] rfl (by (try simp only [List.map_toArray, List.map_cons, List.map_nil]); first | done | rfl | (simp only [List.length_drop, List.length_take]; rfl)) ?_; (with_reducible refine (procedure_target.calls a0 a1 t101 _ ?side1 A8.out).mono ?_); (case side1 => exact GL_transitions.of_below (by repeat (first | (with_reducible first | exact HB.out | apply below_alloc | apply pw_below_drewN | apply below_drew1) | exact HB.out)) HG_transitions.out); rintro e w11 ⟨rfl, hb⟩; refine ⟨_, rfl, ?_⟩; have n0_ := Aside0.mk (below_step (by repeat (first | (with_reducible first | exact HB.out | apply below_alloc | apply pw_below_drewN | apply below_drew1) | exact HB.out)) hb); clear HB; have HB := n0_; clear n0_; (try clear hb); (try clear hb2); (try clear hk); (try clear hi)))
     go_ret2
     exact ⟨by first | rfl | (simp [errW_none, errW_some] <;> rfl) | (simp [*, errW_none, errW_some] <;> rfl), by repeat (first | (with_reducible first | exact HB.out | apply below_alloc | apply pw_below_drewN | apply below_drew1) | exact HB.out)⟩

mutual
def procedure_Class.j0 : Nat → Int → Bool → Option (Int)
 | 0, _, _ => none
 | k + 1, x3, x4 => if x4 = true then (some 1) else (if x3 = 6 then (procedure_Class.j1 k x3 (x3 == 6)) else (if x3 = 7 then (procedure_Class.j1 k x3 (x3 == 7)) else (if x3 = 9 then (procedure_Class.j1 k x3 (x3 == 9)) else (procedure_Class.j1 k x3 (x3 == 12)))))
def procedure_Class.j1 : Nat → Int → Bool → Option (Int)
 | 0, _, _ => none
 | k + 1, x3, x10 => if x10 = true then (some 2) else (if x3 = 8 then (procedure_Class.j2 k x3 (x3 == 8)) else (if x3 = 10 then (procedure_Class.j2 k x3 (x3 == 10)) else (procedure_Class.j2 k x3 (x3 == 11))))
def procedure_Class.j2 : Nat → Int → Bool → Option (Int)
 | 0, _, _ => none
 | k + 1, x3, x15 => if x15 = true then (some 3) else (if x3 = 13 then (some 4) else (some 0))
end
def procedure_Class.f (k : Nat) (a0 : Int) : Option (Int) := if a0 = 1 then (procedure_Class.j0 k a0 (a0 == 1)) else (if a0 = 2 then (procedure_Class.j0 k a0 (a0 == 2)) else (if a0 = 3 then (procedure_Class.j0 k a0 (a0 == 3)) else (if a0 = 4 then (procedure_Class.j0 k a0 (a0 == 4)) else (procedure_Class.j0 k a0 (a0 == 5)))))
theorem procedure_Class.mono_l : ∀ k, (∀ y0 y1, LeO (procedure_Class.j0 k y0 y1) (procedure_Class.j0 (k + 1) y0 y1)) ∧ (∀ y0 y1, LeO (procedure_Class.j1 k y0 y1) (procedure_Class.j1 (k + 1) y0 y1)) ∧ (∀ y0 y1, LeO (procedure_Class.j2 k y0 y1) (procedure_Class.j2 (k + 1) y0 y1))
 | 0 => ⟨fun _ _ r h => by simp [procedure_Class.j0] at h, fun _ _ r h => by simp [procedure_Class.j1] at h, fun _ _ r h => by simp [procedure_Class.j2] at h⟩
 | k + 1 => by
  obtain ⟨ih0, ih1, ih2⟩ := procedure_Class.mono_l k
  refine ⟨?_, ?_, ?_⟩
  ·
   intro y0 y1
   unfold procedure_Class.j0
   repeat' first
   | (with_reducible exact ih0 _ _)
   | (with_reducible exact ih1 _ _)
   | (with_reducible exact ih2 _ _)
   | (with_reducible exact LeO.refl _)
   | (with_reducible exact LeO.none _)
   | (with_reducible refine LeO.ite ?_ ?_)
   | (with_reducible refine LeO.bind ?_ (fun _ => ?_))
   | exact ih0 _ _
   | exact ih1 _ _
   | exact ih2 _ _
   | exact LeO.none _
   | refine LeO.ite ?_ ?_
   | refine LeO.bind ?_ (fun _ => ?_)
  ·
   intro y0 y1
   unfold procedure_Class.j1
   repeat' first
   | (with_reducible exact ih0 _ _)
   | (with_reducible exact ih1 _ _)
   | (with_reducible exact ih2 _ _)
   | (with_reducible exact LeO.refl _)
   | (with_reducible exact LeO.none _)
   | (with_reducible refine LeO.ite ?_ ?_)
   | (with_reducible refine LeO.bind ?_ (fun _ => ?_))
   | exact ih0 _ _
   | exact ih1 _ _
   | exact ih2 _ _
   | exact LeO.none _
   | refine LeO.ite ?_ ?_
   | refine LeO.bind ?_ (fun _ => ?_)
  ·
   intro y0 y1
   unfold procedure_Class.j2
   repeat' first
   | (with_reducible exact ih0 _ _)
   | (with_reducible exact ih1 _ _)
   | (with_reducible exact ih2 _ _)
   | (with_reducible exact LeO.refl _)
   | (with_reducible exact LeO.none _)
   | (with_reducible refine LeO.ite ?_ ?_)
   | (with_reducible refine LeO.bind ?_ (fun _ => ?_))
   | exact ih0 _ _
   | exact ih1 _ _
   | exact ih2 _ _
   | exact LeO.none _
   | refine LeO.ite ?_ ?_
   | refine LeO.bind ?_ (fun _ => ?_)
theorem procedure_Class.mono : ∀ a0 k, LeO (procedure_Class.f k a0) (procedure_Class.f (k + 1) a0) := by
 intro a0 k
 obtain ⟨ih0, ih1, ih2⟩ := procedure_Class.mono_l k
 unfold procedure_Class.f
 repeat' first
   | (with_reducible exact ih0 _ _)
   | (with_reducible exact ih1 _ _)
   | (with_reducible exact ih2 _ _)
   | (with_reducible exact LeO.refl _)
   | (with_reducible exact LeO.none _)
   | (with_reducible refine LeO.ite ?_ ?_)
   | (with_reducible refine LeO.bind ?_ (fun _ => ?_))
   | exact ih0 _ _
   | exact ih1 _ _
   | exact ih2 _ _
   | exact LeO.none _
   | refine LeO.ite ?_ ?_
   | refine LeO.bind ?_ (fun _ => ?_)
set_option maxHeartbeats 8000000 in
set_option maxRecDepth 100000 in
theorem procedure_Class.calls (k : Nat) (a0 : Int) (r : Int) (w : World) (h : procedure_Class.f k a0 = some r) :
  Calls Tryd.prog 12 #[.int .i64 a0] w fun e w' => e = .returned (.int .i64 r) ∧ Drawn0 w w' := by
 have H : (if a0 = 1 then (procedure_Class.j0 k a0 (a0 == 1)) else (if a0 = 2 then (procedure_Class.j0 k a0 (a0 == 2)) else (if a0 = 3 then (procedure_Class.j0 k a0 (a0 == 3)) else (if a0 = 4 then (procedure_Class.j0 k a0 (a0 == 4)) else (procedure_Class.j0 k a0 (a0 == 5)))))) = some r := h
 clear h
 have HC2 := Aside0.mk H
 clear H
 go_enter Tryd.func12, Tryd.ntmps12
 go_upto_if 4 with (fail)
 go_cut [4] (fun v4 wc => ∃ (kq : Nat) (x4_1 : Bool), v4 = .bool x4_1 ∧ Aside0 (procedure_Class.j0 kq a0 x4_1 = some r) ∧ Aside0 (kq ≤ k) ∧ Drawn0 w wc)
 case first =>
  have H := HC2.out
  clear HC2
  by_cases c3 : a0 = 1
  ·
   rw [if_pos c3] at H
   have c3b0 : (a0 == 1) = true := beq_iff_eq.mpr c3
   have c3b1 : (a0 != 1) = false := bne_eq_false_iff_eq.mpr c3
   clear c3
   (first | rw [c3b0] | (simp only [i64_w, i32_w]; rw [c3b0]) | skip)
   have H' := Aside0.mk H
   clear H
   go_wp2
   go_meet
   case rel => exact ⟨_, ((a0 == 1)), (by first | rfl | (simp; done) | (simp [*]; done)), H', ⟨by first | omega | exact Nat.le_refl _⟩, by repeat (first | exact Drawn0.refl _ | apply Drawn0.step)⟩
  ·
   rw [if_neg c3] at H
   have c3b0 : (a0 == 1) = false := beq_eq_false_iff_ne.mpr c3
   have c3b1 : (a0 != 1) = true := bne_iff_ne.mpr c3
   (first | rw [c3b0] | (simp only [i64_w, i32_w]; rw [c3b0]) | skip)
   by_cases c4 : a0 = 2
   ·
    rw [if_pos c4] at H
    have c4b0 : (a0 == 2) = true := beq_iff_eq.mpr c4
    have c4b1 : (a0 != 2) = false := bne_eq_false_iff_eq.mpr c4
    clear c4
    have H' := Aside0.mk H
    clear H
    go_wp2
    go_meet
    case rel => exact ⟨_, ((a0 == 2)), (by first | rfl | (simp; done) | (simp [*]; done)), H', ⟨by first | omega | exact Nat.le_refl _⟩, by repeat (first | exact Drawn0.refl _ | apply Drawn0.step)⟩
   ·
    rw [if_neg c4] at H
    have c4b0 : (a0 == 2) = false := beq_eq_false_iff_ne.mpr c4
    have c4b1 : (a0 != 2) = true := bne_iff_ne.mpr c4
    by_cases c5 : a0 = 3
    ·
     rw [if_pos c5] at H
     have c5b0 : (a0 == 3) = true := beq_iff_eq.mpr c5
     have c5b1 : (a0 != 3) = false := bne_eq_false_iff_eq.mpr c5
     clear c5
     have H' := Aside0.mk H
     clear H
     go_wp2
     go_meet
     case rel => exact ⟨_, ((a0 == 3)), (by first | rfl | (simp; done) | (simp [*]; done)), H', ⟨by first | omega | exact Nat.le_refl _⟩, by repeat (first | exact Drawn0.refl _ | apply Drawn0.step)⟩
    ·
     rw [if_neg c5] at H
     have c5b0 : (a0 == 3) = false := beq_eq_false_iff_ne.mpr c5
     have c5b1 : (a0 != 3) = true := bne_iff_ne.mpr c5
     by_cases c6 : a0 = 4
     ·
      rw [if_pos c6] at H
      have c6b0 : (a0 == 4) = true := beq_iff_eq.mpr c6
      have c6b1 : (a0 != 4) = false := bne_eq_false_iff_eq.mpr c6
      clear c6
      have H' := Aside0.mk H
      clear H
      go_wp2
      go_meet
      case rel => exact ⟨_, ((a0 == 4)), (by first | rfl | (simp; done) | (simp [*]; done)), H', ⟨by first | omega | exact Nat.le_refl _⟩, by repeat (first | exact Drawn0.refl _ | apply Drawn0.step)⟩
     ·
      rw [if_neg c6] at H
      have c6b0 : (a0 == 4) = false := beq_eq_false_iff_ne.mpr c6
      have c6b1 : (a0 != 4) = true := bne_iff_ne.mpr c6
      have H' := Aside0.mk H
      clear H
      go_wp2
      go_meet
      case rel => exact ⟨_, ((a0 == 5)), (by first | rfl | (simp; done) | (simp [*]; done)), H', ⟨by first | omega | exact Nat.le_refl _⟩, by repeat (first | exact Drawn0.refl _ | apply Drawn0.step)⟩
 case rest =>
  clear HC2
  try clear c1
  try clear p2
  try clear c3
  try clear c3b0
  try clear c3b1
  try clear c4
  try clear c4b0
  try clear c4b1
  try clear c5
  try clear c5b0
  try clear c5b1
  try clear c6
  try clear c6b0
  try clear c6b1
  obtain ⟨kq, x4_1, rfl, HA, HJ1, ⟨mc1, rfl⟩⟩ := hcut
  cases kq with
  | zero => exact absurd HA.out (by simp [procedure_Class.j0])
  | succ kj1 =>
   have H := HA.out
   clear HA
   simp only [procedure_Class.j0] at H
   by_cases c7 : x4_1 = true
   ·
    subst c7
    have H1 : (some 1) = some r := by rw [if_pos rfl] at H; exact H
    clear H
    have H := H1
    clear H1
    obtain rfl := Option.some.inj H
    go_wp2
    go_ret
    exact ⟨by first | rfl | (simp; done) | (simp [*]; done), by repeat (first | exact Drawn0.refl _ | apply Drawn0.step)⟩
   ·
    replace c7 := Bool.eq_false_iff.mpr c7
    subst c7
    have H1 : (if a0 = 6 then (procedure_Class.j1 kj1 a0 (a0 == 6)) else (if a0 = 7 then (procedure_Class.j1 kj1 a0 (a0 == 7)) else (if a0 = 9 then (procedure_Class.j1 kj1 a0 (a0 == 9)) else (procedure_Class.j1 kj1 a0 (a0 == 12))))) = some r := by rw [if_neg (show ¬ (false = true) by decide)] at H; exact H
    clear H
    have H := H1
    clear H1
    have HC8 := Aside0.mk H
    clear H
    go_upto_if 10 with (fail)
    go_cut [10] (fun v10 wc => ∃ (kq : Nat) (x10_7 : Bool), v10 = .bool x10_7 ∧ Aside0 (procedure_Class.j1 kq a0 x10_7 = some r) ∧ Aside0 (kq ≤ kj1) ∧ Drawn0 w wc)
    case first =>
     have H := HC8.out
     clear HC8
     by_cases c9 : a0 = 6
     ·
      rw [if_pos c9] at H
      have c9b0 : (a0 == 6) = true := beq_iff_eq.mpr c9
      have c9b1 : (a0 != 6) = false := bne_eq_false_iff_eq.mpr c9
      clear c9
      (first | rw [c9b0] | (simp only [i64_w, i32_w]; rw [c9b0]) | skip)
      have H' := Aside0.mk H
      clear H
      go_wp2
      go_meet
      case rel => exact ⟨_, ((a0 == 6)), (by first | rfl | (simp; done) | (simp [*]; done)), H', ⟨by have := HJ1.out; first | omega | exact Nat.le_refl _⟩, by repeat (first | exact Drawn0.refl _ | apply Drawn0.step)⟩
     ·
      rw [if_neg c9] at H
      have c9b0 : (a0 == 6) = false := beq_eq_false_iff_ne.mpr c9
      have c9b1 : (a0 != 6) = true := bne_iff_ne.mpr c9
      (first | rw [c9b0] | (simp only [i64_w, i32_w]; rw [c9b0]) | skip)
      by_cases c10 : a0 = 7
      ·
       rw [if_pos c10] at H
       have c10b0 : (a0 == 7) = true := beq_iff_eq.mpr c10
       have c10b1 : (a0 != 7) = false := bne_eq_false_iff_eq.mpr c10
       clear c10
       have H' := Aside0.mk H
       clear H
       go_wp2
       go_meet
       case rel => exact ⟨_, ((a0 == 7)), (by first | rfl | (simp; done) | (simp [*]; done)), H', ⟨by have := HJ1.out; first | omega | exact Nat.le_refl _⟩, by repeat (first | exact Drawn0.refl _ | apply Drawn0.step)⟩
      ·
       rw [if_neg c10] at H
       have c10b0 : (a0 == 7) = false := beq_eq_false_iff_ne.mpr c10
       have c10b1 : (a0 != 7) = true := bne_iff_ne.mpr c10
       by_cases c11 : a0 = 9
       ·
        rw [if_pos c11] at H
        have c11b0 : (a0 == 9) = true := beq_iff_eq.mpr c11
        have c11b1 : (a0 != 9) = false := bne_eq_false_iff_eq.mpr c11
        clear c11
        have H' := Aside0.mk H
        clear H
        go_wp2
        go_meet
        case rel => exact ⟨_, ((a0 == 9)), (by first | rfl | (simp; done) | (simp [*]; done)), H', ⟨by have := HJ1.out; first | omega | exact Nat.le_refl _⟩, by repeat (first | exact Drawn0.refl _ | apply Drawn0.step)⟩
       ·
        rw [if_neg c11] at H
        have c11b0 : (a0 == 9) = false := beq_eq_false_iff_ne.mpr c11
        have c11b1 : (a0 != 9) = true := bne_iff_ne.mpr c11
        have H' := Aside0.mk H
        clear H
        go_wp2
        go_meet
        case rel => exact ⟨_, ((a0 == 12)), (by first | rfl | (simp; done) | (simp [*]; done)), H', ⟨by have := HJ1.out; first | omega | exact Nat.le_refl _⟩, by repeat (first | exact Drawn0.refl _ | apply Drawn0.step)⟩
    case rest =>
     clear HC8
     try clear c1
     try clear p2
     try clear c3
     try clear c3b0
     try clear c3b1
     try clear c4
     try clear c4b0
     try clear c4b1
     try clear c5
     try clear c5b0
     try clear c5b1
     try clear c6
     try clear c6b0
     try clear c6b1
     try clear c7
     try clear c9
     try clear c9b0
     try clear c9b1
     try clear c10
     try clear c10b0
     try clear c10b1
     try clear c11
     try clear c11b0
     try clear c11b1
     try clear p2
     obtain ⟨kq, x10_7, rfl, HA, HJ7, ⟨mc7, rfl⟩⟩ := hcut
     cases kq with
     | zero => exact absurd HA.out (by simp [procedure_Class.j1])
     | succ kj7 =>
      have H := HA.out
      clear HA
      simp only [procedure_Class.j1] at H
      by_cases c12 : x10_7 = true
      ·
       subst c12
       have H1 : (some 2) = some r := by rw [if_pos rfl] at H; exact H
       clear H
       have H := H1
       clear H1
       obtain rfl := Option.some.inj H
       go_wp2
       go_ret
       exact ⟨by first | rfl | (simp; done) | (simp [*]; done), by repeat (first | exact Drawn0.refl _ | apply Drawn0.step)⟩
      ·
       replace c12 := Bool.eq_false_iff.mpr c12
       subst c12
       have H1 : (if a0 = 8 then (procedure_Class.j2 kj7 a0 (a0 == 8)) else (if a0 = 10 then (procedure_Class.j2 kj7 a0 (a0 == 10)) else (procedure_Class.j2 kj7 a0 (a0 == 11)))) = some r := by rw [if_neg (show ¬ (false = true) by decide)] at H; exact H
       clear H
       have H := H1
       clear H1
       have HC13 := Aside0.mk H
       clear H
       go_upto_if 15 with (fail)
       go_cut [15] (fun v15 wc => ∃ (kq : Nat) (x15_12 : Bool), v15 = .bool x15_12 ∧ Aside0 (procedure_Class.j2 kq a0 x15_12 = some r) ∧ Aside0 (kq ≤ kj7) ∧ Drawn0 w wc)
       case first =>
        have H := HC13.out
        clear HC13
        by_cases c14 : a0 = 8
        ·
         rw [if_pos c14] at H
         have c14b0 : (a0 == 8) = true := beq_iff_eq.mpr c14
         have c14b1 : (a0 != 8) = false := bne_eq_false_iff_eq.mpr c14
         clear c14
         (first | rw [c14b0] | (simp only [i64_w, i32_w]; rw [c14b0]) | skip)
         have H' := Aside0.mk H
         clear H
         go_wp2
         go_meet
         case rel => exact ⟨_, ((a0 == 8)), (by first | rfl | (simp; done) | (simp [*]; done)), H', ⟨by have := HJ1.out; have := HJ7.out; first | omega | exact Nat.le_refl _⟩, by repeat (first | exact Drawn0.refl _ | apply Drawn0.step)⟩
        ·
         rw [if_neg c14] at H
         have c14b0 : (a0 == 8) = false := beq_eq_false_iff_ne.mpr c14
         have c14b1 : (a0 != 8) = true := bne_iff_ne.mpr c14
         (first | rw [c14b0] | (simp only [i64_w, i32_w]; rw [c14b0]) | skip)
         by_cases c15 : a0 = 10
         ·
          rw [if_pos c15] at H
          have c15b0 : (a0 == 10) = true := beq_iff_eq.mpr c15
          have c15b1 : (a0 != 10) = false := bne_eq_false_iff_eq.mpr c15
          clear c15
          have H' := Aside0.mk H
          clear H
          go_wp2
          go_meet
          case rel => exact ⟨_, ((a0 == 10)), (by first | rfl | (simp; done) | (simp [*]; done)), H', ⟨by have := HJ1.out; have := HJ7.out; first | omega | exact Nat.le_refl _⟩, by repeat (first | exact Drawn0.refl _ | apply Drawn0.step)⟩
         ·
          rw [if_neg c15] at H
          have c15b0 : (a0 == 10) = false := beq_eq_false_iff_ne.mpr c15
          have c15b1 : (a0 != 10) = true := bne_iff_ne.mpr c15
          have H' := Aside0.mk H
          clear H
          go_wp2
          go_meet
          case rel => exact ⟨_, ((a0 == 11)), (by first | rfl | (simp; done) | (simp [*]; done)), H', ⟨by have := HJ1.out; have := HJ7.out; first | omega | exact Nat.le_refl _⟩, by repeat (first | exact Drawn0.refl _ | apply Drawn0.step)⟩
       case rest =>
        clear HC13
        try clear c1
        try clear p2
        try clear c3
        try clear c3b0
        try clear c3b1
        try clear c4
        try clear c4b0
        try clear c4b1
        try clear c5
        try clear c5b0
        try clear c5b1
        try clear c6
        try clear c6b0
        try clear c6b1
        try clear c7
        try clear c9
        try clear c9b0
        try clear c9b1
        try clear c10
        try clear c10b0
        try clear c10b1
        try clear c11
        try clear c11b0
        try clear c11b1
        try clear c12
        try clear c14
        try clear c14b0
        try clear c14b1
        try clear c15
        try clear c15b0
        try clear c15b1
        try clear p2
        obtain ⟨kq, x15_12, rfl, HA, HJ12, ⟨mc12, rfl⟩⟩ := hcut
        cases kq with
        | zero => exact absurd HA.out (by simp [procedure_Class.j2])
        | succ kj12 =>
         have H := HA.out
         clear HA
         simp only [procedure_Class.j2] at H
         by_cases c16 : x15_12 = true
         ·
          subst c16
          have H1 : (some 3) = some r := by rw [if_pos rfl] at H; exact H
          clear H
          have H := H1
          clear H1
          obtain rfl := Option.some.inj H
          go_wp2
          go_ret
          exact ⟨by first | rfl | (simp; done) | (simp [*]; done), by repeat (first | exact Drawn0.refl _ | apply Drawn0.step)⟩
         ·
          replace c16 := Bool.eq_false_iff.mpr c16
          subst c16
          have H1 : (if a0 = 13 then (some 4) else (some 0)) = some r := by rw [if_neg (show ¬ (false = true) by decide)] at H; exact H
          clear H
          have H := H1
          clear H1
          by_cases c17 : a0 = 13
          ·
           rw [if_pos c17] at H
           have c17b0 : (a0 == 13) = true := beq_iff_eq.mpr c17
           have c17b1 : (a0 != 13) = false := bne_eq_false_iff_eq.mpr c17
           clear c17
           obtain rfl := Option.some.inj H
           go_wp2
           go_ret
           exact ⟨by first | rfl | (simp; done) | (simp [*]; done), by repeat (first | exact Drawn0.refl _ | apply Drawn0.step)⟩
          ·
           rw [if_neg c17] at H
           have c17b0 : (a0 == 13) = false := beq_eq_false_iff_ne.mpr c17
           have c17b1 : (a0 != 13) = true := bne_iff_ne.mpr c17
           obtain rfl := Option.some.inj H
           go_wp2
           go_ret
           exact ⟨by first | rfl | (simp; done) | (simp [*]; done), by repeat (first | exact Drawn0.refl _ | apply Drawn0.step)⟩

end Go.Proofs.YtgmedimcejnkjaaDoor.G
namespace Go.Proofs.YtgmedimcejnkjaaDoor.G
open Go.RowKit Go.MapKept

/-- What a map holds at a key. -/
def imGet : List (Int × Value) → Int → Option Value
 | [], _ => none
 | x :: xs, k => if x.1 = k then some x.2 else imGet xs k
/-- A map with a value stored. -/
def imPut : List (Int × Value) → Int → Value → List (Int × Value)
 | [], k, v => [(k, v)]
 | x :: xs, k, v => if x.1 = k then (k, v) :: xs else x :: imPut xs k v
/-- A map without a key. -/
def imDel : List (Int × Value) → Int → List (Int × Value)
 | [], _ => []
 | x :: xs, k => if x.1 = k then xs else x :: imDel xs k
/-- Block b is a map that holds just these. -/
def IM (w : World) (b : Nat) (m : List (Int × Value)) : Prop :=
 ∃ es clock, w.heap[b]? = some (.map es clock) ∧ es.toList.map (fun e => (e.key, e.val)) = m.map (fun x => (Value.int .i64 x.1, x.2))

theorem imGet_none {m : List (Int × Value)} {k : Int} (h : ∀ x ∈ m, x.1 ≠ k) : imGet m k = none := by
 induction m with
 | nil => rfl
 | cons x xs ih => rw [imGet, if_neg (h x (.head _)), ih (fun y hy => h y (.tail _ hy))]
theorem imPut_none {m : List (Int × Value)} {k : Int} (v : Value) (h : ∀ x ∈ m, x.1 ≠ k) : imPut m k v = m ++ [(k, v)] := by
 induction m with
 | nil => rfl
 | cons x xs ih => rw [imPut, if_neg (h x (.head _)), ih (fun y hy => h y (.tail _ hy))]; rfl
theorem imDel_none {m : List (Int × Value)} {k : Int} (h : ∀ x ∈ m, x.1 ≠ k) : imDel m k = m := by
 induction m with
 | nil => rfl
 | cons x xs ih => rw [imDel, if_neg (h x (.head _)), ih (fun y hy => h y (.tail _ hy))]

theorem IM.lt {w : World} {b : Nat} {m : List (Int × Value)} (h : IM w b m) : b < w.heap.size := by
 obtain ⟨es, clock, h, _⟩ := h
 exact (Array.getElem?_eq_some_iff.1 h).1
theorem IM.of_block {w w' : World} {b : Nat} {m : List (Int × Value)} (h : IM w b m) (e : w'.heap[b]? = w.heap[b]?) : IM w' b m := by
 obtain ⟨es, clock, h, r⟩ := h
 exact ⟨es, clock, e.trans h, r⟩
theorem IM.drewN {w : World} {b n : Nat} {m : List (Int × Value)} (h : IM w b m) : IM (w.drewN n) b m := h
theorem IM.drew {w : World} {b : Nat} {m : List (Int × Value)} (h : IM w b m) : IM w.drew b m := h
theorem IM.below {w w' : World} {b : Nat} {m : List (Int × Value)} (h : IM w b m) (hb : Below w.heap.size w w') : IM w' b m := h.of_block (hb.block b h.lt)
theorem IM.grown {w w' : World} {b : Nat} {m : List (Int × Value)} {row : Option Nat} (h : IM w b m) (hg : w.grownBy w' row) (hne : some b ≠ row) : IM w' b m := h.of_block (hg.block b h.lt hne)
theorem IM.alloc {w : World} {b : Nat} {m : List (Int × Value)} (h : IM w b m) (o : Obj) : IM (w.alloc o) b m := h.grown (World.grownBy_alloc w o none) (by simp)
theorem IM.made (w : World) : IM (w.alloc (.map #[] 0)) w.heap.size [] := ⟨#[], 0, (heap_alloc w _).1, rfl⟩

section
variable {P : Program} {T K E : TypeId} {w : World} {b : Nat} {m : List (Int × Value)}

/-- What is found in the entries, as the list of pairs has it. -/
theorem IM.found {es : List MapEntry} {m : List (Int × Value)} (h : es.map (fun e => (e.key, e.val)) = m.map (fun x => (Value.int .i64 x.1, x.2))) (k : Int) :
  (Instr.findNow (.int .i64) (.int .i64 k) es 0 = some none ∧ ∀ x ∈ m, x.1 ≠ k) ∨
  ∃ j e v, Instr.findNow (.int .i64) (.int .i64 k) es 0 = some (some (j, v)) ∧ es[j]? = some e ∧ e.key = .int .i64 k ∧ imGet m k = some v ∧
   (∀ u, (es.modify j fun e => { e with key := .int .i64 k, val := u }).map (fun e => (e.key, e.val)) = (imPut m k u).map (fun x => (Value.int .i64 x.1, x.2))) ∧
   (es.eraseIdx j).map (fun e => (e.key, e.val)) = (imDel m k).map (fun x => (Value.int .i64 x.1, x.2)) := by
 suffices H : ∀ (es : List MapEntry) (m : List (Int × Value)) (i : Nat), es.map (fun e => (e.key, e.val)) = m.map (fun x => (Value.int .i64 x.1, x.2)) →
   (Instr.findNow (.int .i64) (.int .i64 k) es i = some none ∧ ∀ x ∈ m, x.1 ≠ k) ∨
   ∃ j e v, Instr.findNow (.int .i64) (.int .i64 k) es i = some (some (i + j, v)) ∧ es[j]? = some e ∧ e.key = .int .i64 k ∧ imGet m k = some v ∧
    (∀ u, (es.modify j fun e => { e with key := .int .i64 k, val := u }).map (fun e => (e.key, e.val)) = (imPut m k u).map (fun x => (Value.int .i64 x.1, x.2))) ∧
    (es.eraseIdx j).map (fun e => (e.key, e.val)) = (imDel m k).map (fun x => (Value.int .i64 x.1, x.2)) by
  rcases H es m 0 h with h1 | ⟨j, e, v, h1, h2⟩
  ·
   exact .inl h1
  ·
   exact .inr ⟨j, e, v, by simpa using h1, h2⟩
 clear h
 intro es
 induction es with
 | nil =>
  intro m i h
  have : m = [] := by simpa using h.symm
  subst this
  exact .inl ⟨rfl, by simp⟩
 | cons e es ih =>
  intro m i h
  cases m with
  | nil => simp at h
  | cons x xs =>
   simp only [List.map_cons, List.cons.injEq, Prod.mk.injEq] at h
   obtain ⟨⟨hk, hv⟩, ht⟩ := h
   by_cases c : x.1 = k
   ·
    refine .inr ⟨0, e, e.val, ?_, rfl, by rw [hk, c], ?_, ?_, ?_⟩
    ·
     simp [Instr.findNow, Instr.sameNow, hk, c]
    ·
     rw [imGet, if_pos c, hv]
    ·
     intro u
     rw [imPut, if_pos c]
     simp [List.modify_cons, ht]
    ·
     rw [imDel, if_pos c]
     simp [ht]
   ·
    have hn : Instr.sameNow (.int .i64) (.int .i64 k) e.key = some false := by
     rw [hk]
     simp [Instr.sameNow]
     exact fun q => c q.symm
    rcases ih xs (i + 1) ht with ⟨h1, h2⟩ | ⟨j, e', v, h1, h2, h3, h4, h5, h6⟩
    ·
     refine .inl ⟨by simp [Instr.findNow, hn, h1], fun y hy => ?_⟩
     cases hy with
     | head => exact c
     | tail _ hy => exact h2 y hy
    ·
     refine .inr ⟨j + 1, e', v, ?_, by simpa using h2, h3, by rw [imGet, if_neg c, h4], ?_, ?_⟩
     ·
      simp [Instr.findNow, hn, h1]; omega
     ·
      intro u
      rw [imPut, if_neg c]
      have := h5 u
      simp only [List.modify_succ_cons, List.map_cons, this]
      simp [hk, hv]
     ·
      rw [imDel, if_neg c]
      simp only [List.eraseIdx_cons_succ, List.map_cons, h6]
      simp [hk, hv]

theorem IM.look (h : IM w b m) (hT : P.underlying T = some (.map K E)) (hK : P.underlying K = some (.int .i64)) {z : Value} (hz : (zeroValue E).run P w = .ok z w) (k : Int) :
  (Instr.lookup T (.map (some b)) (.int .i64 k) false).run P w = .ok ((imGet m k).getD z) w ∧ (Instr.lookup T (.map (some b)) (.int .i64 k) true).run P w = .ok (.tuple #[(imGet m k).getD z, .bool (imGet m k).isSome]) w := by
 obtain ⟨es, clock, hb, r⟩ := h
 have hk : IsKey (.int .i64) (.int .i64 k) := by simp [IsKey]
 rcases IM.found r k with ⟨h1, h2⟩ | ⟨j, e, v, h1, _, _, h4, _⟩
 ·
  rw [imGet_none h2]
  constructor <;> simp [Instr.lookup, run_underlying hT, MapKept.run_getObj_map hb, MapKept.run_checkKey hK hk, MapKept.run_findKey hK h1, hz, Result.andThen]
 ·
  rw [h4]
  constructor <;> simp [Instr.lookup, run_underlying hT, MapKept.run_getObj_map hb, MapKept.run_checkKey hK hk, MapKept.run_findKey hK h1, Result.andThen]

theorem IM.store (h : IM w b m) (hT : P.underlying T = some (.map K E)) (hK : P.underlying K = some (.int .i64)) (k : Int) (u : Value) :
  ∃ w2, (Instr.mapUpdate T (.map (some b)) (.int .i64 k) u).run P w = .ok () w2 ∧ IM w2 b (imPut m k u) ∧ w.grownBy w2 (some b) := by
 obtain ⟨es, clock, hb, r⟩ := h
 have hk : IsKey (.int .i64) (.int .i64 k) := by simp [IsKey]
 have hgr : ∀ o, w.grownBy { w with heap := w.heap.setIfInBounds b o } (some b) := fun o => ⟨rfl, rfl, rfl, by simp, fun i _ hne => (heap_set hb).2 i (fun q => hne (by rw [q]))⟩
 rcases IM.found r k with ⟨h1, h2⟩ | ⟨j, e, v, h1, hj, h3, h4, h5, _⟩
 ·
  refine ⟨_, by simp [Instr.mapUpdate, run_underlying hT, MapKept.run_getObj_map hb, MapKept.run_checkKey hK hk, MapKept.run_findKey hK h1, MapKept.run_setObj_map _ hb, Result.andThen]; rfl, ⟨_, _, (heap_set hb).1, ?_⟩, hgr _⟩
  rw [imPut_none u h2]
  simp [r]
 ·
  have hj' : es[j]? = some e := by simpa using hj
  refine ⟨_, by simp [Instr.mapUpdate, run_underlying hT, MapKept.run_getObj_map hb, MapKept.run_checkKey hK hk, MapKept.run_findKey hK h1, hj', h3, MapKept.run_keyThatStays hk, MapKept.run_setObj_map _ hb, Result.andThen]; rfl, ⟨_, _, (heap_set hb).1, ?_⟩, hgr _⟩
  rw [← h5 u, Array.toList_modify]

theorem IM.drop (h : IM w b m) (hT : P.underlying T = some (.map K E)) (hK : P.underlying K = some (.int .i64)) (k : Int) (ty : TypeId) :
  ∃ w2, (Builtin.delete_ #[T, K] ty #[.map (some b), .int .i64 k]).run P w = .ok (.tuple #[]) w2 ∧ IM w2 b (imDel m k) ∧ w.grownBy w2 (some b) := by
 obtain ⟨es, clock, hb, r⟩ := h
 have hk : IsKey (.int .i64) (.int .i64 k) := by simp [IsKey]
 have hgr : ∀ o, w.grownBy { w with heap := w.heap.setIfInBounds b o } (some b) := fun o => ⟨rfl, rfl, rfl, by simp, fun i _ hne => (heap_set hb).2 i (fun q => hne (by rw [q]))⟩
 rcases IM.found r k with ⟨h1, h2⟩ | ⟨j, e, v, h1, hj, h3, h4, _, h6⟩
 ·
  refine ⟨_, by simp [Builtin.delete_, run_underlying hT, MapKept.run_getObj_map hb, MapKept.run_checkKey hK hk, MapKept.run_findKey hK h1, MapKept.run_setObj_map _ hb, Result.andThen]; rfl, ⟨_, _, (heap_set hb).1, ?_⟩, hgr _⟩
  rw [imDel_none h2]
  exact r
 ·
  have hlt : j < es.size := by
   have := (List.getElem?_eq_some_iff.1 hj).1
   simpa using this
  refine ⟨_, by simp [Builtin.delete_, run_underlying hT, MapKept.run_getObj_map hb, MapKept.run_checkKey hK hk, MapKept.run_findKey hK h1, MapKept.run_setObj_map _ hb, Result.andThen]; rfl, ⟨_, _, (heap_set hb).1, ?_⟩, hgr _⟩
  rw [← h6]
  simp [Array.eraseIdxIfInBounds, hlt]

theorem IM.len (h : IM w b m) (hT : P.underlying T = some (.map K E)) (ty : TypeId) : (Builtin.len_ #[T] ty #[.map (some b)]).run P w = .ok (.int .i64 m.length) w := by
 obtain ⟨es, clock, hb, r⟩ := h
 have e : es.size = m.length := by
  have := congrArg List.length r
  simpa using this
 simp [Builtin.len_, run_underlying hT, MapKept.run_getObj_map hb, Result.andThen, e, goInt]
end
end Go.Proofs.YtgmedimcejnkjaaDoor.G
namespace Go.Proofs.YtgmedimcejnkjaaDoor.G
open Go.RowKit

theorem wpList_im_look {P : Program} {w : World} {ops : Array Oper} {rest : List Oper} {o : Oper} {a : Act} {Q : Exit → Act → World → Prop} (hg : o.guard = none) (m x : Operand) (t : TypeId) (c : Bool)
  (hop : o.op = Op.lookup t m x c) (b : Nat) (hm : a.eval m = .map (some b)) (key : Int) (hx : a.eval x = .int .i64 key) (r : Value) (hrun : (Instr.lookup t (.map (some b)) (.int .i64 key) c).run P w = .ok r w)
  (h : wpList P ops Q rest (a.put o.dst r) w) : wpList P ops Q (o :: rest) a w := by
 refine wpList_plain hg fun K hK => ?_
 unfold Oper.wp
 simp [execOp, hop, hm, hx, hrun, Result.andThen]
 exact hK _ _ h
theorem wpList_im_store {P : Program} {w w2 : World} {ops : Array Oper} {rest : List Oper} {o : Oper} {a : Act} {Q : Exit → Act → World → Prop} (hg : o.guard = none) (m x v : Operand) (t : TypeId)
  (hop : o.op = Op.mapUpdate t m x v ∨ o.op = Op.insert t m x v) (b : Nat) (hm : a.eval m = .map (some b)) (key : Int) (hx : a.eval x = .int .i64 key) (u : Value) (hv : a.eval v = u) (hrun : (Instr.mapUpdate t (.map (some b)) (.int .i64 key) u).run P w = .ok () w2)
  (h : wpList P ops Q rest (a.put o.dst undef) w2) : wpList P ops Q (o :: rest) a w := by
 refine wpList_plain hg fun K hK => ?_
 unfold Oper.wp
 rcases hop with hop | hop <;> simp [execOp, hop, hm, hx, hv, hrun, Result.andThen] <;> exact hK _ _ h
end Go.Proofs.YtgmedimcejnkjaaDoor.G
namespace Go.Proofs.YtgmedimcejnkjaaDoor.G
open Go.RowKit Go.Proofs.YtgmedimcejnkjaaDoorW.PrintWords Go.Proofs.YtgmedimcejnkjaaDoorW.PrintLast Go.Proofs.YtgmedimcejnkjaaDoorW.PrintMore
attribute [local go_sem] max2_int min2_int max_two min_two max_three min_three max_four min_four   -- for this text's walks alone
set_option linter.unusedVariables false
set_option linter.unusedSimpArgs false

/-- What a list of pairs holds at a key. -/
def pGet : List (Int × List Int) → Int → Option (List Int)
 | [], _ => none
 | x :: xs, k => if x.1 = k then some x.2 else pGet xs k
mutual
def procedure_Path.l0 : Nat → Int → List (Int × List Int) → List Int → Option (List Int × Bool)
 | 0, _, _, _ => none
 | k + 1, dst, m, q => if q = [] then some ([], false) else (if rd q 0 = dst then some ((pGet m (rd q 0)).getD [], true) else procedure_Path.l1 k dst (rd q 0) m (q.drop 1) 1)
def procedure_Path.l1 : Nat → Int → Int → List (Int × List Int) → List Int → Int → Option (List Int × Bool)
 | 0, _, _, _, _, _ => none
 | k + 1, dst, p, m, q, a => if a ≤ 14 then ((procedure_Next.f k p a).bind fun r => if r.2 = 0 then (if (pGet m r.1).isSome = true then procedure_Path.l1 k dst p m q (wrap64 (a + 1)) else (if ((pGet m p).getD []).length < 1000 then (if q.length < 1000 then procedure_Path.l1 k dst p (m ++ [(r.1, (pGet m p).getD [] ++ [a])]) (q ++ [r.1]) (wrap64 (a + 1)) else none) else none)) else procedure_Path.l1 k dst p m q (wrap64 (a + 1))) else procedure_Path.l0 k dst m q
end
def procedure_Path.f (k : Nat) (a0 : Int) (a1 : Int) : Option (List Int × Bool) := if a0 < 0 then some ([], false) else (if a0 ≥ 14 then some ([], false) else (if a1 < 0 then some ([], false) else (if a1 ≥ 14 then some ([], false) else procedure_Path.l0 k a1 [(a0, [])] [a0])))
theorem procedure_Path.mono_l : ∀ k, (∀ y0 y1 y2, LeO (procedure_Path.l0 k y0 y1 y2) (procedure_Path.l0 (k + 1) y0 y1 y2)) ∧ (∀ y0 y1 y2 y3 y4, LeO (procedure_Path.l1 k y0 y1 y2 y3 y4) (procedure_Path.l1 (k + 1) y0 y1 y2 y3 y4))
 | 0 => ⟨fun _ _ _ r h => by simp [procedure_Path.l0] at h, fun _ _ _ _ _ r h => by simp [procedure_Path.l1] at h⟩
 | k + 1 => by
  obtain ⟨ih0, ih1⟩ := procedure_Path.mono_l k
  refine ⟨?_, ?_⟩
  ·
   intro y0 y1 y2
   unfold procedure_Path.l0
   repeat' first
   | (with_reducible exact ih1 _ _ _ _ _)
   | (with_reducible exact LeO.refl _)
   | (with_reducible exact LeO.none _)
   | (with_reducible refine LeO.ite ?_ ?_)
   | (with_reducible refine LeO.bind ?_ (fun _ => ?_))
  ·
   intro y0 y1 y2 y3 y4
   unfold procedure_Path.l1
   repeat' first
   | (with_reducible exact ih0 _ _ _)
   | (with_reducible exact ih1 _ _ _ _ _)
   | (with_reducible exact procedure_Next.mono _ _ _)
   | (with_reducible exact LeO.refl _)
   | (with_reducible exact LeO.none _)
   | (with_reducible refine LeO.ite ?_ ?_)
   | (with_reducible refine LeO.bind ?_ (fun _ => ?_))
theorem procedure_Path.mono : ∀ a0 a1 k, LeO (procedure_Path.f k a0 a1) (procedure_Path.f (k + 1) a0 a1) := by
 intro a0 a1 k
 have ih0 := (procedure_Path.mono_l k).1
 unfold procedure_Path.f
 repeat' first
   | (with_reducible exact ih0 _ _ _)
   | (with_reducible exact LeO.refl _)
   | (with_reducible refine LeO.ite ?_ ?_)
/-- The map's values own the lists; none of them lies in the queue's block. -/
def PV (W : World) (B : Nat) (u : Value) : List (Int × Value) → List (Int × List Int) → Prop
 | [], [] => True
 | x :: xs, y :: ys => x.1 = y.1 ∧ (Kd.int .i64).R 3 W B (fun k_ => some k_ ≠ u.ownBlock) x.2 y.2 ∧ PV W B u xs ys
 | _, _ => False
theorem PV.imp {W W' : World} {B : Nat} {u u' : Value} (hi : ∀ v l, (Kd.int .i64).R 3 W B (fun k_ => some k_ ≠ u.ownBlock) v l → (Kd.int .i64).R 3 W' B (fun k_ => some k_ ≠ u'.ownBlock) v l) : ∀ {vs m}, PV W B u vs m → PV W' B u' vs m
 | [], [], _ => trivial
 | _ :: _, _ :: _, h => ⟨h.1, hi _ _ h.2.1, PV.imp hi h.2.2⟩
 | [], _ :: _, h => h.elim
 | _ :: _, [], h => h.elim
theorem PV.get {W : World} {B : Nat} {u : Value} (k : Int) : ∀ {vs m}, PV W B u vs m → (imGet vs k = none ∧ pGet m k = none) ∨ ∃ v l, imGet vs k = some v ∧ pGet m k = some l ∧ (Kd.int .i64).R 3 W B (fun k_ => some k_ ≠ u.ownBlock) v l
 | [], [], _ => .inl ⟨rfl, rfl⟩
 | x :: xs, y :: ys, h => by
  obtain ⟨h1, h2, h3⟩ := h
  by_cases c : x.1 = k
  ·
   exact .inr ⟨x.2, y.2, by rw [imGet, if_pos c], by rw [pGet, if_pos (h1 ▸ c)], h2⟩
  ·
   rw [imGet, if_neg c, pGet, if_neg (fun e => c (h1.trans e))]
   exact PV.get k h3
 | [], _ :: _, h => h.elim
 | _ :: _, [], h => h.elim
theorem PV.put {W : World} {B : Nat} {u v : Value} {l : List Int} {k : Int} (hv : (Kd.int .i64).R 3 W B (fun k_ => some k_ ≠ u.ownBlock) v l) : ∀ {vs m}, PV W B u vs m → imGet vs k = none → PV W B u (imPut vs k v) (m ++ [(k, l)])
 | [], [], _, _ => ⟨rfl, hv, trivial⟩
 | x :: xs, y :: ys, h, hn => by
  by_cases c : x.1 = k
  ·
   rw [imGet, if_pos c] at hn; cases hn
  ·
   rw [imGet, if_neg c] at hn
   rw [imPut, if_neg c]
   exact ⟨h.1, h.2.1, PV.put hv h.2.2 hn⟩
 | [], _ :: _, h, _ => h.elim
 | _ :: _, [], h, _ => h.elim
/-- A row of whole numbers stays as long as its own block does. -/
theorem R_stay {W W' : World} {B : Nat} {ok ok' : Nat → Prop} {v : Value} {l : List Int} (h : (Kd.int .i64).R 3 W B ok v l) {row : Option Nat} (hg : W.grownBy W' row) (hne : ∀ k, v.ownBlock = some k → some k ≠ row) (hok : ∀ k, v.ownBlock = some k → ok' k) : (Kd.int .i64).R 3 W' B ok' v l :=
 Kd.R_mono (Kd.R_grown (Kd.R_tight rfl h) hg (fun k hk => hne k hk.symm)) (fun k hk => hok k hk.symm)
/-- A map's block is no row's. -/
theorem map_ne {W : World} {B : Nat} {ok : Nat → Prop} {v : Value} {l : List Int} {b : Nat} {vs : List (Int × Value)} (h : (Kd.int .i64).R 3 W B ok v l) (hm : IM W b vs) : ∀ k, v.ownBlock = some k → k ≠ b := by
 intro k hk e
 subst e
 obtain ⟨cs, hc⟩ := Kd.R_typed h k hk
 obtain ⟨es, clock, hm, _⟩ := hm
 rw [hc] at hm
 cases hm
theorem map_neQ {W : World} {B : Nat} {ok : Nat → Prop} {v : Value} {l : List Int} {b : Nat} {vs : List (Int × Value)} (h : (Kd.int .i64).Q 3 W B ok v l) (hm : IM W b vs) : ∀ k, v.ownBlock = some k → k ≠ b := by
 intro k hk e
 subst e
 obtain ⟨cs, hc⟩ := Kd.Q_typed h k hk
 obtain ⟨es, clock, hm, _⟩ := hm
 rw [hc] at hm
 cases hm
/-- What is carried: the map, its values, the queue. -/
structure PI (w W : World) (b : Nat) (u : Value) (m : List (Int × List Int)) (q : List Int) : Prop where
 vs : ∃ vs, IM W b vs ∧ PV W w.heap.size u vs m
 q : (Kd.int .i64).Q 3 W w.heap.size (fun _ => True) u q
 hb : Below w.heap.size w W
 ge : w.heap.size ≤ b
theorem PI.below {w W W' : World} {b : Nat} {u : Value} {m : List (Int × List Int)} {q : List Int} (h : PI w W b u m q) (hb : Below W.heap.size W W') : PI w W' b u m q := by
 obtain ⟨⟨vs, h1, h2⟩, h3, h4, h5⟩ := h
 exact ⟨⟨vs, h1.below hb, h2.imp (fun _ _ r => Kd.R_below r hb)⟩, Kd.Q_below h3 hb, below_step h4 hb, h5⟩
theorem Path_out (a0 : Int) (a1 : Int) (w : World) (h : a0 < 0 ∨ a0 ≥ 14 ∨ a1 < 0 ∨ a1 ≥ 14) :
  Calls Tryd.prog 15 #[.int .i64 a0, .int .i64 a1] w fun e w' => e = .returned (.tuple #[.slice none 0 0, .bool false]) ∧ w = w' := by
 by_cases c1 : a0 < 0
 ·
  have b1 : decide (a0 < 0) = true := decide_eq_true c1
  clear c1 h
  go_enter Tryd.func15, Tryd.ntmps15
  go_wp2
  go_ret2
  exact ⟨rfl, rfl⟩
 have b1 : decide (a0 < 0) = false := decide_eq_false c1
 by_cases c2 : a0 ≥ 14
 ·
  have b2 : decide (14 ≤ a0) = true := decide_eq_true c2
  clear c1 c2 h
  go_enter Tryd.func15, Tryd.ntmps15
  go_wp2
  go_ret2
  exact ⟨rfl, rfl⟩
 have b2 : decide (14 ≤ a0) = false := decide_eq_false c2
 by_cases c3 : a1 < 0
 ·
  have b3 : decide (a1 < 0) = true := decide_eq_true c3
  clear c1 c2 c3 h
  go_enter Tryd.func15, Tryd.ntmps15
  go_wp2
  go_ret2
  exact ⟨rfl, rfl⟩
 have b3 : decide (a1 < 0) = false := decide_eq_false c3
 have c4 : a1 ≥ 14 := by omega
 have b4 : decide (14 ≤ a1) = true := decide_eq_true c4
 clear c1 c2 c3 c4 h
 go_enter Tryd.func15, Tryd.ntmps15
 go_wp2
 go_ret2
 exact ⟨rfl, rfl⟩
theorem own_cut {A : Option Addr} {n n' c c' k : Nat} : (Value.slice (if c = 1 then A else A.map (·.add k)) n' c').ownBlock = (Value.slice A n c).ownBlock := by
 split <;> cases A <;> simp [Value.ownBlock, Addr.add] <;> split <;> rfl
theorem PI.cut {w W : World} {b c : Nat} {A : Option Addr} {m : List (Int × List Int)} {q : List Int} (h : PI w W b (.slice A q.length c) m q) (hq : 1 ≤ q.length) : PI w W b (.slice (if c = 1 then A else A.map (·.add (1 * 1))) (q.length - 1) (c - 1)) m (q.drop 1) := by
 obtain ⟨⟨vs, h1, h2⟩, h3, h4, h5⟩ := h
 refine ⟨⟨vs, h1, h2.imp (fun _ _ r => Kd.R_mono r (fun k hk => ?_))⟩, Kd.Q_drop h3 hq, h4, h5⟩
 rw [own_cut (n := q.length)]
 exact hk
theorem PI.start {w w1 w2 : World} {a0 : Int} {v : Value} (hm : IM w1 w.heap.size [(a0, .slice none 0 0)]) (hg : (w.alloc (.map #[] 0)).grownBy w1 (some w.heap.size)) (hv : Kd.R (Kd.int .i64) 3 w2 w1.heap.size (fun _ => True) v [a0]) (hb : Below w1.heap.size w1 w2) : PI w w2 w.heap.size v [(a0, [])] [a0] := by
 have hb1 : Below w.heap.size w w1 := Below.grown (below_alloc (Below.refl _ _) _) hg (below_alloc (Below.refl w.heap.size w) _).size (fun k hk => by cases hk; exact Nat.le_refl _)
 have hle : w.heap.size ≤ w1.heap.size := hb1.size
 exact ⟨⟨_, hm.below hb, rfl, Kd.R_nil _ _ _ _ _, trivial⟩, Kd.Q_of_R (Kd.R_lower hv hle), below_step hb1 hb, Nat.le_refl _⟩
/-- A list taken out of the map. -/
theorem PI.look {w W : World} {b : Nat} {u : Value} {m : List (Int × List Int)} {q : List Int} (h : PI w W b u m q) (k : Int) : ∃ (o : Option Value) (v : Value), v = o.getD (.slice none 0 0) ∧ o.isSome = (pGet m k).isSome ∧ (Kd.int .i64).R 3 W w.heap.size (fun k_ => some k_ ≠ u.ownBlock) v ((pGet m k).getD []) ∧
  (Instr.lookup 42 (.map (some b)) (.int .i64 k) false).run Tryd.prog W = .ok v W ∧ (Instr.lookup 42 (.map (some b)) (.int .i64 k) true).run Tryd.prog W = .ok (.tuple #[v, .bool o.isSome]) W := by
 obtain ⟨⟨vs, h1, h2⟩, h3, h4, h5⟩ := h
 obtain ⟨e1, e2⟩ := h1.look (P := Tryd.prog) (T := 42) (K := 3) (E := 29) Tryd.underlying42 (by first | exact Tryd.underlying3 | rfl) (z := .slice none 0 0) (by first | rfl | go_simp) k
 rcases h2.get k with ⟨g1, g2⟩ | ⟨v, l, g1, g2, g3⟩
 ·
  rw [g1] at e1 e2
  exact ⟨none, _, rfl, by rw [g2]; rfl, by rw [g2]; exact Kd.R_nil _ _ _ _ _, e1, e2⟩
 ·
  rw [g1] at e1 e2
  exact ⟨some v, _, rfl, by rw [g2]; rfl, by rw [g2]; exact g3, e1, e2⟩
/-- A list stored under a new key. -/
theorem PI.stored {w W W3 : World} {b : Nat} {u v : Value} {m : List (Int × List Int)} {q l : List Int} (h : PI w W b u m q) {k : Int} (hn : (pGet m k).isSome = false) (hb : Below W.heap.size W W3) (hv : (Kd.int .i64).R 3 W3 W.heap.size (fun _ => True) v l) :
  ∃ W4, (Instr.mapUpdate 42 (.map (some b)) (.int .i64 k) v).run Tryd.prog W3 = .ok () W4 ∧ PI w W4 b u (m ++ [(k, l)]) q := by
 have h' := h.below hb
 obtain ⟨⟨vs, h1, h2⟩, h3, h4, h5⟩ := h'
 have hlt : b < W.heap.size := by obtain ⟨⟨vs0, g1, _⟩, _⟩ := h; exact g1.lt
 have hu : ∀ i, u.ownBlock = some i → i < W.heap.size := Kd.Q_lt h.q
 obtain ⟨W4, e1, e2, e3⟩ := h1.store (P := Tryd.prog) (T := 42) (K := 3) (E := 29) Tryd.underlying42 (by first | exact Tryd.underlying3 | rfl) k v
 refine ⟨W4, e1, ?_⟩
 have hnone : imGet vs k = none := by
  rcases h2.get k with ⟨g1, _⟩ | ⟨_, _, _, g2, _⟩
  ·
   exact g1
  ·
   rw [g2] at hn; cases hn
 refine ⟨⟨_, e2, PV.put ?_ (h2.imp (fun x y r => ?_)) hnone⟩, ?_, ?_, h5⟩
 ·
  refine R_stay (Kd.R_lower hv (Nat.le_trans h5 (Nat.le_of_lt hlt))) e3 (fun i hi e => ?_) (fun i hi e => ?_)
  ·
   have := Kd.R_base hv i hi
   cases e
   omega
  ·
   have := Kd.R_base hv i hi
   have := hu i e.symm
   omega
 ·
  exact R_stay r e3 (fun i hi e => map_ne r h1 i hi (Option.some.inj e)) (fun i hi => r.1 i hi)
 ·
  exact Kd.Q_mono (Kd.Q_grown (Kd.Q_tight rfl h3) e3 (fun i hi e => map_neQ h3 h1 i hi.symm (Option.some.inj e))) (fun _ _ => trivial)
 ·
  exact Below.grown h4 e3 (Nat.le_trans h5 (Nat.le_of_lt (Nat.lt_of_lt_of_le hlt hb.size))) (fun i hi => by cases hi; exact h5)
/-- The queue has grown. -/
theorem PI.queued {w W W5 : World} {b : Nat} {u u' : Value} {m : List (Int × List Int)} {q q' : List Int} (h : PI w W b u m q) (hq : (Kd.int .i64).Q 3 W5 w.heap.size (fun _ => True) u' q') (hb : Below w.heap.size w W5) (hg : W.grownBy W5 u.ownBlock) (hat : u'.ownBlock = u.ownBlock ∨ ∃ i, u'.ownBlock = some i ∧ W.heap.size ≤ i) : PI w W5 b u' m q' := by
 obtain ⟨⟨vs, h1, h2⟩, h3, h4, h5⟩ := h
 refine ⟨⟨vs, h1.grown hg (fun e => map_neQ h3 h1 b e.symm rfl), h2.imp (fun x y r => ?_)⟩, hq, hb, h5⟩
 refine R_stay r hg (fun i hi => r.1 i hi) (fun i hi e => ?_)
 rcases hat with e1 | ⟨j, e1, e2⟩
 ·
  exact r.1 i hi (e.trans e1)
 ·
  rw [e1] at e
  cases e
  have := Kd.R_lt r i hi
  omega
set_option maxHeartbeats 8000000 in
set_option maxRecDepth 100000 in
theorem procedure_Path.calls (k : Nat) (a0 : Int) (a1 : Int) (r1 : List Int) (r2 : Bool) (w : World) (hG_transitions : GL_transitions w) (h : procedure_Path.f k a0 a1 = some (r1, r2)) :
  Calls Tryd.prog 15 #[.int .i64 a0, .int .i64 a1] w fun e w' => ∃ v0_ : Value, e = .returned (.tuple #[v0_, .bool r2]) ∧ Kd.R (Kd.int .i64) 3 w' w.heap.size (fun _ => True) v0_ r1 ∧ Below w.heap.size w w' := by
 by_cases c0 : a0 < 0 ∨ a0 ≥ 14 ∨ a1 < 0 ∨ a1 ≥ 14
 ·
  have e : (([] : List Int), false) = (r1, r2) := by
   unfold procedure_Path.f at h
   by_cases d1 : a0 < 0
   ·
    rw [if_pos d1] at h; exact Option.some.inj h
   rw [if_neg d1] at h
   by_cases d2 : a0 ≥ 14
   ·
    rw [if_pos d2] at h; exact Option.some.inj h
   rw [if_neg d2] at h
   by_cases d3 : a1 < 0
   ·
    rw [if_pos d3] at h; exact Option.some.inj h
   rw [if_neg d3, if_pos (by omega)] at h; exact Option.some.inj h
  cases e
  refine (Path_out a0 a1 w c0).mono ?_
  rintro e w' ⟨rfl, rfl⟩
  exact ⟨_, rfl, Kd.R_nil _ _ _ _ _, Below.refl _ _⟩
 have H0 : procedure_Path.l0 k a1 [(a0, [])] [a0] = some (r1, r2) := by
  unfold procedure_Path.f at h
  rw [if_neg (by omega), if_neg (by omega), if_neg (by omega), if_neg (by omega)] at h
  exact h
 have HH := Aside0.mk H0
 clear h H0
 have b1 : decide (a0 < 0) = false := decide_eq_false (by omega)
 have b2 : decide (14 ≤ a0) = false := decide_eq_false (by omega)
 have b3 : decide (a1 < 0) = false := decide_eq_false (by omega)
 have b4 : decide (14 ≤ a1) = false := decide_eq_false (by omega)
 clear c0
 have HG := Aside0.mk hG_transitions
 clear hG_transitions
 obtain ⟨w1, hrun1, him1, hg1⟩ := (IM.made w).store (P := Tryd.prog) (T := 42) (K := 3) (E := 29) Tryd.underlying42 (by first | exact Tryd.underlying3 | rfl) a0 (.slice none 0 0)
 have Hrun1 := Aside0.mk hrun1
 have Him1 := Aside0.mk him1
 have Hg1 := Aside0.mk hg1
 clear hrun1 him1 hg1
 have hmm := @run_makeMap Tryd.prog
 go_enter Tryd.func15, Tryd.ntmps15
 go_wp2_with (first | (refine wpList_im_store rfl (.tmp 28) (.tmp 29) (.const (.slice none 0 0)) 42 (Or.inr rfl) w.heap.size rfl a0 rfl (.slice none 0 0) rfl Hrun1.out ?_) | ((with_reducible refine gate_dst (N := 32) rfl ?_); refine Kd.R_lit (Kd.int .i64) (w0 := w1) w1.heap.size 3 ?hg (N := 32) ?hd (xs := ([a0] : List Int)) (inner := [.int .i64 a0]) (ok := fun _ => True) (okp := fun _ => True) ?hr ?hp (fun _ hk => hk) trivial (Below.refl _ _) (Nat.le_refl _) (by simp) ?_; (case hd => rfl); (case hg => rfl); (case hr => first | (go_simp; done) | (go_simp; rfl)); (case hp => exact (Reps.one (show Kd.M (Kd.int .i64) _ _ _ a0 [.int .i64 a0] from rfl) (Reps.none _ _))); intro v32 w2 ho hb hg_ hnew_; clear hg_ hnew_; have HP := Aside0.mk (PI.start Him1.out Hg1.out ho hb); clear ho hb))
 go_loopg [7] k (fun kq v7 w' => ∃ (m : List (Int × List Int)) (q : List Int), Aside0 (procedure_Path.l0 kq a1 m q = some (r1, r2)) ∧ Aside0 (kq ≤ k) ∧ Aside0 (PI w w' w.heap.size v7 m q))
 case atStart => exact ⟨_, _, HH, ⟨Nat.le_refl _⟩, HP⟩
 case round =>
  clear HH b1 b2 b3 b4 Hrun1 Him1 Hg1 HP
  obtain ⟨m, q, HA, HK1, HP⟩ := hrel
  cases gk with
  | zero => exact absurd HA.out (by simp [procedure_Path.l0])
  | succ k2 =>
   have H := HA.out
   clear HA
   simp only [procedure_Path.l0] at H
   obtain ⟨A7, c7, rfl, hc7⟩ := Kd.Q_slice HP.out.q
   by_cases cq : q = []
   ·
    rw [if_pos cq] at H
    have e := Option.some.inj H
    cases e
    subst cq
    go_wp2
    go_ret2
    exact ⟨_, rfl, Kd.R_nil _ _ _ _ _, HP.out.hb⟩
   rw [if_neg cq] at H
   have hlen : 1 ≤ q.length := List.length_pos_iff.2 cq
   have hpos : decide (0 < (q.length : Int)) = true := decide_eq_true (by omega)
   have hlt0 : (0 : Int) < (q.length : Int) := by omega
   obtain ⟨ad, e0, hx0⟩ := Kd.at_int (Kd.Q_reads' HP.out.q).2.2 0 (Int.le_refl _) hlt0
   cases e0
   have hx0' := hx0
   rw [show ad.add (Int.toNat 0) = ad by simp [Addr.add]] at hx0'
   have hposN : 0 < q.length := hlen
   obtain ⟨i0, hi0, _, hsz0, _⟩ := info_parts info3
   have hcut := cut_from (P := Tryd.prog) 29 3 .i64 Tryd.underlying29 hi0 1 hsz0 (some ad) q.length c7 1 (by decide) (by omega)
   have HP1 := Aside0.mk (HP.out.cut hlen)
   obtain ⟨u1, hu1⟩ : ∃ u1 : Value, u1 = (.slice (if c7 = 1 then some ad else (some ad : Option Addr).map (·.add (1 * 1))) (q.length - 1) (c7 - 1)) := ⟨_, rfl⟩
   rw [show (Int.toNat 1) = 1 from rfl, ← hu1] at hcut
   rw [← hu1] at HP1
   clear hu1 hi0 hsz0 cq hc7
   obtain ⟨p, hp⟩ : ∃ p : Int, p = rd q 0 := ⟨_, rfl⟩
   rw [← hp] at H hx0 hx0'
   clear hp
   by_cases cp : p = a1
   ·
    rw [if_pos cp] at H
    have e := Option.some.inj H
    have er1 := (Prod.mk.inj e).1
    have er2 := (Prod.mk.inj e).2
    subst er1 er2
    have cpb : (p == a1) = true := beq_iff_eq.mpr cp
    clear cp e H
    obtain ⟨o, v, ev, eo, hR, hl1, hl2⟩ := HP1.out.look p
    have HR := Aside0.mk hR
    clear hR ev eo hl2
    go_wp2_with (first | (refine wpList_im_look rfl (.tmp 44) (.tmp 45) 42 false rfl w.heap.size rfl p rfl v hl1 ?_))
    go_ret2
    exact ⟨_, rfl, Kd.R_mono HR.out (fun _ _ => trivial), HP.out.hb⟩
   rw [if_neg cp] at H
   have cpb : (p == a1) = false := beq_eq_false_iff_ne.mpr cp
   have HH := Aside0.mk H
   clear cp H
   go_wp2
   go_loopg [7, 9] k2 (fun kq v7 v9 w' => ∃ (m : List (Int × List Int)) (q : List Int) (a : Int), v9 = .int .i64 a ∧ Aside0 (procedure_Path.l1 kq a1 p m q a = some (r1, r2)) ∧ Aside0 (kq ≤ k2) ∧ Aside0 (PI w w' w.heap.size v7 m q))
   case atStart => exact ⟨_, _, 1, rfl, HH, ⟨Nat.le_refl _⟩, HP1⟩
   case round =>
    clear HH HP HP1 hcut hx0 hx0' hpos hposN hlt0 cpb
    obtain ⟨m, q, a, rfl, HA, HK2, HP⟩ := hrel
    cases gk with
    | zero => exact absurd HA.out (by simp [procedure_Path.l1])
    | succ k3 =>
     have H := HA.out
     clear HA
     simp only [procedure_Path.l1] at H
     by_cases ca : a ≤ 14
     ·
      rw [if_pos ca] at H
      have cab : decide (a ≤ 14) = true := decide_eq_true ca
      clear ca
      rcases hN : procedure_Next.f k3 p a with _ | ⟨t1, t2⟩
      ·
       rw [hN] at H; cases H
      rw [hN] at H
      replace H : (if t2 = 0 then (if (pGet m t1).isSome = true then procedure_Path.l1 k3 a1 p m q (wrap64 (a + 1)) else (if ((pGet m p).getD []).length < 1000 then (if q.length < 1000 then procedure_Path.l1 k3 a1 p (m ++ [(t1, (pGet m p).getD [] ++ [a])]) (q ++ [t1]) (wrap64 (a + 1)) else none) else none)) else procedure_Path.l1 k3 a1 p m q (wrap64 (a + 1))) = some (r1, r2) := H
      have HN := Aside0.mk hN
      clear hN
      by_cases ct : t2 = 0
      ·
       rw [if_pos ct] at H
       have ctb : (t2 == 0) = true := beq_iff_eq.mpr ct
       have ctn : (t2 != 0) = false := bne_eq_false_iff_eq.mpr ct
       clear ct
       by_cases cs : (pGet m t1).isSome = true
       ·
        rw [if_pos cs] at H
        have HH := Aside0.mk H
        clear H
        go_wp2_with (first | ((with_reducible refine gate_callee (f := 10) rfl ?_); refine goesL_ (some 54) rfl rfl Tryd.func10 (by kernel_rfl) rfl #[.int .i64 p, .int .i64 a] rfl (by (try simp only [List.map_toArray, List.map_cons, List.map_nil]); first | done | rfl) ?_; (with_reducible refine (procedure_Next.calls k3 p a t1 t2 _ ?side1 HN.out).mono ?_); (case side1 => exact GL_transitions.of_below HP.out.hb HG.out); rintro e w8 ⟨rfl, hb⟩; refine ⟨_, rfl, ?_⟩; have HQ := Aside0.mk (HP.out.below hb); clear HP hb; obtain ⟨o, v, ev, eo, hR, hl1, hl2⟩ := HQ.out.look t1; clear ev hR hl1; rw [eo, cs] at hl2; clear eo) | (refine wpList_im_look rfl (.tmp 58) (.tmp 59) 42 true rfl w.heap.size rfl t1 rfl (.tuple #[v, .bool true]) hl2 ?_))
        go_roundg k3
        case measure => have := HK1.out; have := HK2.out; omega
        case rel => exact ⟨_, _, _, rfl, HH, ⟨by have := HK1.out; have := HK2.out; omega⟩, HQ⟩
       ·
        rw [if_neg cs] at H
        have cs' : (pGet m t1).isSome = false := by simpa using cs
        clear cs
        by_cases cl : ((pGet m p).getD []).length < 1000
        ·
         rw [if_pos cl] at H
         by_cases cm : q.length < 1000
         ·
          rw [if_pos cm] at H
          have HH := Aside0.mk H
          have LM := Aside0.mk cl
          have LQ := Aside0.mk cm
          have CS := Aside0.mk cs'
          clear H cl cm cs'
          go_wp2_with (first | ((with_reducible refine gate_callee (f := 10) rfl ?_); refine goesL_ (some 54) rfl rfl Tryd.func10 (by kernel_rfl) rfl #[.int .i64 p, .int .i64 a] rfl (by (try simp only [List.map_toArray, List.map_cons, List.map_nil]); first | done | rfl) ?_; (with_reducible refine (procedure_Next.calls k3 p a t1 t2 _ ?side1 HN.out).mono ?_); (case side1 => exact GL_transitions.of_below HP.out.hb HG.out); rintro e w8 ⟨rfl, hb⟩; refine ⟨_, rfl, ?_⟩; have HQ := Aside0.mk (HP.out.below hb); clear HP hb; obtain ⟨o, v, ev, eo, hR, hl1, hl2⟩ := HQ.out.look t1; clear ev hR hl1; rw [eo, CS.out] at hl2; clear eo) | (refine wpList_im_look rfl (.tmp 58) (.tmp 59) 42 true rfl w.heap.size rfl t1 rfl (.tuple #[v, .bool false]) hl2 ?_) | ((with_reducible refine gate_dst (N := 70) rfl ?_); refine Kd.R_lit (Kd.int .i64) (w0 := w8) w8.heap.size 3 ?hg (N := 70) ?hd (xs := ([] : List Int)) (inner := []) (ok := fun _ => True) (okp := fun _ => True) ?hr ?hp (fun _ hk => hk) trivial (Below.refl _ _) (Nat.le_refl _) (by simp) ?_; (case hd => rfl); (case hg => rfl); (case hr => first | (go_simp; done) | (go_simp; rfl)); (case hp => exact (Reps.none _ _)); intro v70 w9 ho hb hg_ hnew_; clear hg_ hnew_; have HO70 := Aside0.mk ho; have HB := Aside0.mk hb; have HQ9 := HQ.out.below hb; obtain ⟨o2, v2, ev2, eo2, hR2, hl3, hl4⟩ := HQ9.look p; clear ho hb HQ9 ev2 eo2 hl4; obtain ⟨A2, c2, ea2⟩ := Kd.R_slice hR2; subst ea2; have HR2 := Aside0.mk hR2; clear hR2) | (refine wpList_im_look rfl (.tmp 71) (.tmp 72) 42 false rfl w.heap.size rfl p rfl _ hl3 ?_) | ((with_reducible refine gate_builtin (b := .append) (xs := #[.tmp 70, .tmp 73]) rfl ?_); at_builtin; refine Kd.R_append_rows (Kd.int .i64) (w0 := w8) w8.heap.size rfl (.tmp 70) (.tmp 73) 29 3 (.int .i64 0) 8 rfl Tryd.underlying29 info3 rfl (by decide) (by omega) v70 ([] : List Int) ((pGet m p).getD []) A2 _ c2 (fun _ => True) (fun _ => False) rfl rfl ?aO ?aR (fun _ _ h => h) (fun _ h => h.elim) (fun _ _ => trivial) ?aB ?aS ?aL ?_; (case aO => exact HO70.out); (case aR => exact (Kd.R_reads' HR2.out).2.2); (case aB => exact HB.out); (case aS => exact HB.out.size); (case aL => have := LM.out; simp only [List.length_nil]; omega); intro v74 w10 ho hb hg hat; have HO74 := Aside0.mk (show Kd.R (Kd.int .i64) 3 w10 w8.heap.size (fun _ => True) v74 ((pGet m p).getD []) from ho); have n_ := Aside0.mk hb; clear HB; have HB := n_; clear n_ ho hb hg hat hl3) | ((with_reducible refine gate_builtin (b := .append) (xs := #[.tmp 74, .tmp 76]) rfl ?_); at_builtin; refine Kd.R_append (Kd.int .i64) (w0 := w8) w8.heap.size rfl (.tmp 74) (.tmp 76) 29 3 (.int .i64 0) 8 rfl Tryd.underlying29 info3 rfl (by decide) (by omega) v74 ((pGet m p).getD []) a [.int .i64 a] (fun _ => True) (fun _ => False) rfl rfl ?aP (fun _ hk => hk.elim) (fun _ _ => trivial) ?aO ?aB ?aS ?aL ?_; (case aP => exact rfl); (case aO => exact HO74.out); (case aB => exact HB.out); (case aS => exact HB.out.size); (case aL => have := LM.out; omega); intro v77 w11 ho hb hg hat; obtain ⟨w12, hst, hP⟩ := HQ.out.stored (k := t1) CS.out hb ho; have HP := Aside0.mk hP; clear ho hb hg hat hP) | (refine wpList_im_store rfl (.tmp 68) (.tmp 69) (.tmp 77) 42 (Or.inl rfl) w.heap.size rfl t1 rfl v77 rfl hst ?_) | ((with_reducible refine gate_builtin (b := .append) (xs := #[.tmp 78, .tmp 80]) rfl ?_); at_builtin; refine Kd.Q_append (Kd.int .i64) (w0 := w) w.heap.size rfl (.tmp 78) (.tmp 80) 29 3 (.int .i64 0) 8 rfl Tryd.underlying29 info3 rfl (by decide) (by omega) _ q t1 [.int .i64 t1] (fun _ => True) (fun _ => False) rfl rfl ?aP (fun _ hk => hk.elim) (fun _ _ => trivial) ?aO ?aB ?aS ?aL ?_; (case aP => exact rfl); (case aO => exact HP.out.q); (case aB => exact HP.out.hb); (case aS => exact HP.out.hb.size); (case aL => have := LQ.out; omega); intro v81 w13 ho hb hg hat; have HP2 := Aside0.mk (HP.out.queued ho hb hg hat); clear ho hb hg hat))
          go_roundg k3
          case measure => have := HK1.out; have := HK2.out; omega
          case rel => exact ⟨_, _, _, rfl, HH, ⟨by have := HK1.out; have := HK2.out; omega⟩, HP2⟩
         ·
          rw [if_neg cm] at H; cases H
        ·
         rw [if_neg cl] at H; cases H
      ·
       rw [if_neg ct] at H
       have ctb : (t2 == 0) = false := beq_eq_false_iff_ne.mpr ct
       have ctn : (t2 != 0) = true := bne_iff_ne.mpr ct
       have HH := Aside0.mk H
       clear H ct
       go_wp2_with (first | ((with_reducible refine gate_callee (f := 10) rfl ?_); refine goesL_ (some 54) rfl rfl Tryd.func10 (by kernel_rfl) rfl #[.int .i64 p, .int .i64 a] rfl (by (try simp only [List.map_toArray, List.map_cons, List.map_nil]); first | done | rfl) ?_; (with_reducible refine (procedure_Next.calls k3 p a t1 t2 _ ?side1 HN.out).mono ?_); (case side1 => exact GL_transitions.of_below HP.out.hb HG.out); rintro e w8 ⟨rfl, hb⟩; refine ⟨_, rfl, ?_⟩; have HQ := Aside0.mk (HP.out.below hb); clear HP hb; obtain ⟨o, v, ev, eo, hR, hl1, hl2⟩ := HQ.out.look t1; clear ev hR hl1) | (refine wpList_im_look rfl (.tmp 58) (.tmp 59) 42 true rfl w.heap.size rfl t1 rfl (.tuple #[v, .bool o.isSome]) hl2 ?_))
       go_roundg k3
       case measure => have := HK1.out; have := HK2.out; omega
       case rel => exact ⟨_, _, _, rfl, HH, ⟨by have := HK1.out; have := HK2.out; omega⟩, HQ⟩
     ·
      rw [if_neg ca] at H
      have cab : decide (a ≤ 14) = false := decide_eq_false ca
      have HH := Aside0.mk H
      clear H ca
      go_wp2
      go_roundg k3
      case measure => have := HK1.out; have := HK2.out; omega
      case rel => exact ⟨_, _, HH, ⟨by have := HK1.out; have := HK2.out; omega⟩, HP⟩

def customslaw24_awake.f (k : Nat)  : Option (Bool) := (procedure_Next.f k 6 11).bind fun bt102 => ((procedure_Path.f k 0 6).bind fun bt104 => (if bt102.1 = 9 then (if bt102.2 = 0 then (if bt104.2 = true then (if (bt104.1.length : Int) = 2 then (if 0 < (bt104.1.length : Int) then (if (rd bt104.1 0) = 1 then (if 1 < (bt104.1.length : Int) then (if (rd bt104.1 1) = 8 then ((procedure_Class.f k 2).bind fun t110 => (some (t110 == 1))) else (some false)) else (none)) else (some false)) else (none)) else (some false)) else (some false)) else (some false)) else (some false)))
theorem customslaw24_awake.mono : ∀ k, LeO (customslaw24_awake.f k ) (customslaw24_awake.f (k + 1) ) := by
 intro  k
 unfold customslaw24_awake.f
 repeat' first
   | (with_reducible exact procedure_Class.mono _ _)
   | (with_reducible exact procedure_Next.mono _ _ _)
   | (with_reducible exact procedure_Path.mono _ _ _)
   | (with_reducible exact LeO.refl _)
   | (with_reducible exact LeO.none _)
   | (with_reducible refine LeO.ite ?_ ?_)
   | (with_reducible refine LeO.bind ?_ (fun _ => ?_))
   | exact procedure_Class.mono _ _
   | exact procedure_Next.mono _ _ _
   | exact procedure_Path.mono _ _ _
   | exact LeO.none _
   | refine LeO.ite ?_ ?_
   | refine LeO.bind ?_ (fun _ => ?_)
set_option maxHeartbeats 8000000 in
set_option maxRecDepth 100000 in
theorem customslaw24_awake.calls (k : Nat)  (r : Bool) (w : World) (hG_transitions : GL_transitions w) (h : customslaw24_awake.f k  = some r) :
  Calls Tryd.prog 14 #[] w fun e w' => e = .returned (.bool r) ∧ Below w.heap.size w w' := by
 have HG_transitions := Aside0.mk hG_transitions
 clear hG_transitions
 have HB := Aside0.mk (Below.refl w.heap.size w)
 have H : ((procedure_Next.f k 6 11).bind fun bt102 => ((procedure_Path.f k 0 6).bind fun bt104 => (if bt102.1 = 9 then (if bt102.2 = 0 then (if bt104.2 = true then (if (bt104.1.length : Int) = 2 then (if 0 < (bt104.1.length : Int) then (if (rd bt104.1 0) = 1 then (if 1 < (bt104.1.length : Int) then (if (rd bt104.1 1) = 8 then ((procedure_Class.f k 2).bind fun t110 => (some (t110 == 1))) else (some false)) else (none)) else (some false)) else (none)) else (some false)) else (some false)) else (some false)) else (some false)))) = some r := h
 clear h
 replace H := Option.bind_eq_some_iff.mp H
 obtain ⟨⟨t102, t103⟩, A10, H⟩ := H
 replace H : ((procedure_Path.f k 0 6).bind fun bt104 => (if t102 = 9 then (if t103 = 0 then (if bt104.2 = true then (if (bt104.1.length : Int) = 2 then (if 0 < (bt104.1.length : Int) then (if (rd bt104.1 0) = 1 then (if 1 < (bt104.1.length : Int) then (if (rd bt104.1 1) = 8 then ((procedure_Class.f k 2).bind fun t110 => (some (t110 == 1))) else (some false)) else (none)) else (some false)) else (none)) else (some false)) else (some false)) else (some false)) else (some false))) = some r := H
 have A1 := Aside0.mk A10
 clear A10
 replace H := Option.bind_eq_some_iff.mp H
 obtain ⟨⟨t104, t105⟩, A20, H⟩ := H
 replace H : (if t102 = 9 then (if t103 = 0 then (if t105 = true then (if (t104.length : Int) = 2 then (if 0 < (t104.length : Int) then (if (rd t104 0) = 1 then (if 1 < (t104.length : Int) then (if (rd t104 1) = 8 then ((procedure_Class.f k 2).bind fun t110 => (some (t110 == 1))) else (some false)) else (none)) else (some false)) else (none)) else (some false)) else (some false)) else (some false)) else (some false)) = some r := H
 have A2 := Aside0.mk A20
 clear A20
 by_cases c3 : t102 = 9
 ·
  rw [if_pos c3] at H
  have c3b0 : (t102 == 9) = true := beq_iff_eq.mpr c3
  have c3b1 : (t102 != 9) = false := bne_eq_false_iff_eq.mpr c3
  clear c3
  by_cases c4 : t103 = 0
  ·
   rw [if_pos c4] at H
   have c4b0 : (t103 == 0) = true := beq_iff_eq.mpr c4
   have c4b1 : (t103 != 0) = false := bne_eq_false_iff_eq.mpr c4
   clear c4
   by_cases c5 : t105 = true
   ·
    subst c5
    have H1 : (if (t104.length : Int) = 2 then (if 0 < (t104.length : Int) then (if (rd t104 0) = 1 then (if 1 < (t104.length : Int) then (if (rd t104 1) = 8 then ((procedure_Class.f k 2).bind fun t110 => (some (t110 == 1))) else (some false)) else (none)) else (some false)) else (none)) else (some false)) = some r := by rw [if_pos rfl] at H; exact H
    clear H
    have H := H1
    clear H1
    by_cases c6 : (t104.length : Int) = 2
    ·
     rw [if_pos c6] at H
     have c6b0 : ((t104.length : Int) == 2) = true := beq_iff_eq.mpr c6
     have c6b1 : ((t104.length : Int) != 2) = false := bne_eq_false_iff_eq.mpr c6
     clear c6
     by_cases c7 : 0 < (t104.length : Int)
     ·
      rw [if_pos c7] at H
      have c7b0 : decide (0 < (t104.length : Int)) = true := decide_eq_true c7
      have c7b1 : decide (0 < t104.length) = true := decide_eq_true (by omega)
      clear c7
      by_cases c8 : (rd t104 0) = 1
      ·
       rw [if_pos c8] at H
       have c8b0 : ((rd t104 0) == 1) = true := beq_iff_eq.mpr c8
       have c8b1 : ((rd t104 0) != 1) = false := bne_eq_false_iff_eq.mpr c8
       clear c8
       by_cases c9 : 1 < (t104.length : Int)
       ·
        rw [if_pos c9] at H
        have c9b0 : decide (1 < (t104.length : Int)) = true := decide_eq_true c9
        have c9b1 : decide (1 < t104.length) = true := decide_eq_true (by omega)
        clear c9
        by_cases c10 : (rd t104 1) = 8
        ·
         rw [if_pos c10] at H
         have c10b0 : ((rd t104 1) == 8) = true := beq_iff_eq.mpr c10
         have c10b1 : ((rd t104 1) != 8) = false := bne_eq_false_iff_eq.mpr c10
         clear c10
         replace H := Option.bind_eq_some_iff.mp H
         obtain ⟨t110, A110, H⟩ := H
         replace H : (some (t110 == 1)) = some r := H
         have A11 := Aside0.mk A110
         clear A110
         obtain rfl := Option.some.inj H
         go_enter Tryd.func14, Tryd.ntmps14
         go_wp2_with (first | ((with_reducible refine gate_callee (f := 10) rfl ?_); refine goesL_ (some 6) rfl rfl Tryd.func10 (by kernel_rfl) rfl #[.int .i64 6, .int .i64 11] rfl (by (try simp only [List.map_toArray, List.map_cons, List.map_nil]); first | done | rfl | (simp only [List.length_drop, List.length_take]; rfl)) ?_; (with_reducible refine (procedure_Next.calls k 6 11 t102 t103 _ ?side1 A1.out).mono ?_); (case side1 => exact GL_transitions.of_below (by repeat (first | (with_reducible first | exact HB.out | apply below_alloc | apply pw_below_drewN | apply below_drew1) | exact HB.out)) HG_transitions.out); rintro e w12 ⟨rfl, hb⟩; refine ⟨_, rfl, ?_⟩; have n0_ := Aside0.mk (below_step (by repeat (first | (with_reducible first | exact HB.out | apply below_alloc | apply pw_below_drewN | apply below_drew1) | exact HB.out)) hb); clear HB; have HB := n0_; clear n0_; (try clear hb); (try clear hb2); (try clear hk); (try clear hi)) | ((with_reducible refine gate_callee (f := 15) rfl ?_); refine goesL_ (some 10) rfl rfl Tryd.func15 (by kernel_rfl) rfl #[.int .i64 0, .int .i64 6] rfl (by (try simp only [List.map_toArray, List.map_cons, List.map_nil]); first | done | rfl | (simp only [List.length_drop, List.length_take]; rfl)) ?_; (with_reducible refine (procedure_Path.calls k 0 6 t104 true _ ?side1 A2.out).mono ?_); (case side1 => exact GL_transitions.of_below (by repeat (first | (with_reducible first | exact HB.out | apply below_alloc | apply pw_below_drewN | apply below_drew1) | exact HB.out)) HG_transitions.out); rintro e w13 ⟨v106, rfl, ho0, hb⟩; refine ⟨_, rfl, ?_⟩; have n0_ := Aside0.mk (Kd.R_lower ho0 (below_size (by repeat (first | (with_reducible first | exact HB.out | apply below_alloc | apply pw_below_drewN | apply below_drew1) | exact HB.out)))); have n1_ := Aside0.mk (below_step (by repeat (first | (with_reducible first | exact HB.out | apply below_alloc | apply pw_below_drewN | apply below_drew1) | exact HB.out)) hb); clear HB; have HO107 := n0_; have HB := n1_; clear n0_ n1_; (try clear hb); (try clear hb2); (try clear hk); (try clear hi); (try clear ho0); obtain ⟨Ao14, co14, eo14⟩ := Kd.R_slice HO107.out; subst eo14; have p108 : 0 ≤ (0 : Int) := (by omega); have q108 : 0 < (t104.length : Int) := of_decide_eq_true (by first | (with_reducible assumption) | assumption); obtain ⟨ad108, e108, hx108_0⟩ := Kd.at_int (Kd.R_reads' HO107.out).2.2 0 p108 q108; cases e108; have qi108 : (0 < t104.length) = True := eq_true (by omega); (try rw [show ((0 : Int)).toNat = 0 from rfl] at hx108_0); (try rw [Addr.add_zero'] at hx108_0); replace p108 := eq_true p108; replace q108 := eq_true q108; have p109 : 0 ≤ (1 : Int) := (by omega); have q109 : 1 < (t104.length : Int) := of_decide_eq_true (by first | (with_reducible assumption) | assumption); obtain ⟨ad109, e109, hx109_0⟩ := Kd.at_int (Kd.R_reads' HO107.out).2.2 1 p109 q109; obtain rfl : ad108 = ad109 := (by injection e109); (try simp only [show (1 : Int).toNat = 1 from rfl, Nat.reduceMul, Nat.reduceEqDiff, Go.Addr.add, ↓reduceIte] at hx109_0); have qi109 : (1 < t104.length) = True := eq_true (by omega); (try rw [show ((1 : Int)).toNat = 1 from rfl] at hx109_0); replace p109 := eq_true p109; replace q109 := eq_true q109) | (go_at_call 12; (with_reducible refine (procedure_Class.calls k 2 t110 _ A11.out).mono ?_); rintro e w' ⟨rfl, ⟨nd, rfl⟩⟩))
         go_ret
         exact ⟨by first | rfl | (simp [errW_none, errW_some] <;> rfl) | (simp [*, errW_none, errW_some] <;> rfl), by repeat (first | (with_reducible first | exact HB.out | apply below_alloc | apply pw_below_drewN | apply below_drew1) | exact HB.out)⟩
        ·
         rw [if_neg c10] at H
         have c10b0 : ((rd t104 1) == 8) = false := beq_eq_false_iff_ne.mpr c10
         have c10b1 : ((rd t104 1) != 8) = true := bne_iff_ne.mpr c10
         obtain rfl := Option.some.inj H
         go_enter Tryd.func14, Tryd.ntmps14
         go_wp2_with (first | ((with_reducible refine gate_callee (f := 10) rfl ?_); refine goesL_ (some 6) rfl rfl Tryd.func10 (by kernel_rfl) rfl #[.int .i64 6, .int .i64 11] rfl (by (try simp only [List.map_toArray, List.map_cons, List.map_nil]); first | done | rfl | (simp only [List.length_drop, List.length_take]; rfl)) ?_; (with_reducible refine (procedure_Next.calls k 6 11 t102 t103 _ ?side1 A1.out).mono ?_); (case side1 => exact GL_transitions.of_below (by repeat (first | (with_reducible first | exact HB.out | apply below_alloc | apply pw_below_drewN | apply below_drew1) | exact HB.out)) HG_transitions.out); rintro e w15 ⟨rfl, hb⟩; refine ⟨_, rfl, ?_⟩; have n0_ := Aside0.mk (below_step (by repeat (first | (with_reducible first | exact HB.out | apply below_alloc | apply pw_below_drewN | apply below_drew1) | exact HB.out)) hb); clear HB; have HB := n0_; clear n0_; (try clear hb); (try clear hb2); (try clear hk); (try clear hi)) | ((with_reducible refine gate_callee (f := 15) rfl ?_); refine goesL_ (some 10) rfl rfl Tryd.func15 (by kernel_rfl) rfl #[.int .i64 0, .int .i64 6] rfl (by (try simp only [List.map_toArray, List.map_cons, List.map_nil]); first | done | rfl | (simp only [List.length_drop, List.length_take]; rfl)) ?_; (with_reducible refine (procedure_Path.calls k 0 6 t104 true _ ?side1 A2.out).mono ?_); (case side1 => exact GL_transitions.of_below (by repeat (first | (with_reducible first | exact HB.out | apply below_alloc | apply pw_below_drewN | apply below_drew1) | exact HB.out)) HG_transitions.out); rintro e w16 ⟨v106, rfl, ho0, hb⟩; refine ⟨_, rfl, ?_⟩; have n0_ := Aside0.mk (Kd.R_lower ho0 (below_size (by repeat (first | (with_reducible first | exact HB.out | apply below_alloc | apply pw_below_drewN | apply below_drew1) | exact HB.out)))); have n1_ := Aside0.mk (below_step (by repeat (first | (with_reducible first | exact HB.out | apply below_alloc | apply pw_below_drewN | apply below_drew1) | exact HB.out)) hb); clear HB; have HO107 := n0_; have HB := n1_; clear n0_ n1_; (try clear hb); (try clear hb2); (try clear hk); (try clear hi); (try clear ho0); obtain ⟨Ao17, co17, eo17⟩ := Kd.R_slice HO107.out; subst eo17; have p108 : 0 ≤ (0 : Int) := (by omega); have q108 : 0 < (t104.length : Int) := of_decide_eq_true (by first | (with_reducible assumption) | assumption); obtain ⟨ad108, e108, hx108_0⟩ := Kd.at_int (Kd.R_reads' HO107.out).2.2 0 p108 q108; cases e108; have qi108 : (0 < t104.length) = True := eq_true (by omega); (try rw [show ((0 : Int)).toNat = 0 from rfl] at hx108_0); (try rw [Addr.add_zero'] at hx108_0); replace p108 := eq_true p108; replace q108 := eq_true q108; have p109 : 0 ≤ (1 : Int) := (by omega); have q109 : 1 < (t104.length : Int) := of_decide_eq_true (by first | (with_reducible assumption) | assumption); obtain ⟨ad109, e109, hx109_0⟩ := Kd.at_int (Kd.R_reads' HO107.out).2.2 1 p109 q109; obtain rfl : ad108 = ad109 := (by injection e109); (try simp only [show (1 : Int).toNat = 1 from rfl, Nat.reduceMul, Nat.reduceEqDiff, Go.Addr.add, ↓reduceIte] at hx109_0); have qi109 : (1 < t104.length) = True := eq_true (by omega); (try rw [show ((1 : Int)).toNat = 1 from rfl] at hx109_0); replace p109 := eq_true p109; replace q109 := eq_true q109))
         go_ret
         exact ⟨by first | rfl | (simp [errW_none, errW_some] <;> rfl) | (simp [*, errW_none, errW_some] <;> rfl), by repeat (first | (with_reducible first | exact HB.out | apply below_alloc | apply pw_below_drewN | apply below_drew1) | exact HB.out)⟩
       ·
        rw [if_neg c9] at H
        exact absurd H (by simp)
      ·
       rw [if_neg c8] at H
       have c8b0 : ((rd t104 0) == 1) = false := beq_eq_false_iff_ne.mpr c8
       have c8b1 : ((rd t104 0) != 1) = true := bne_iff_ne.mpr c8
       obtain rfl := Option.some.inj H
       go_enter Tryd.func14, Tryd.ntmps14
       go_wp2_with (first | ((with_reducible refine gate_callee (f := 10) rfl ?_); refine goesL_ (some 6) rfl rfl Tryd.func10 (by kernel_rfl) rfl #[.int .i64 6, .int .i64 11] rfl (by (try simp only [List.map_toArray, List.map_cons, List.map_nil]); first | done | rfl | (simp only [List.length_drop, List.length_take]; rfl)) ?_; (with_reducible refine (procedure_Next.calls k 6 11 t102 t103 _ ?side1 A1.out).mono ?_); (case side1 => exact GL_transitions.of_below (by repeat (first | (with_reducible first | exact HB.out | apply below_alloc | apply pw_below_drewN | apply below_drew1) | exact HB.out)) HG_transitions.out); rintro e w18 ⟨rfl, hb⟩; refine ⟨_, rfl, ?_⟩; have n0_ := Aside0.mk (below_step (by repeat (first | (with_reducible first | exact HB.out | apply below_alloc | apply pw_below_drewN | apply below_drew1) | exact HB.out)) hb); clear HB; have HB := n0_; clear n0_; (try clear hb); (try clear hb2); (try clear hk); (try clear hi)) | ((with_reducible refine gate_callee (f := 15) rfl ?_); refine goesL_ (some 10) rfl rfl Tryd.func15 (by kernel_rfl) rfl #[.int .i64 0, .int .i64 6] rfl (by (try simp only [List.map_toArray, List.map_cons, List.map_nil]); first | done | rfl | (simp only [List.length_drop, List.length_take]; rfl)) ?_; (with_reducible refine (procedure_Path.calls k 0 6 t104 true _ ?side1 A2.out).mono ?_); (case side1 => exact GL_transitions.of_below (by repeat (first | (with_reducible first | exact HB.out | apply below_alloc | apply pw_below_drewN | apply below_drew1) | exact HB.out)) HG_transitions.out); rintro e w19 ⟨v106, rfl, ho0, hb⟩; refine ⟨_, rfl, ?_⟩; have n0_ := Aside0.mk (Kd.R_lower ho0 (below_size (by repeat (first | (with_reducible first | exact HB.out | apply below_alloc | apply pw_below_drewN | apply below_drew1) | exact HB.out)))); have n1_ := Aside0.mk (below_step (by repeat (first | (with_reducible first | exact HB.out | apply below_alloc | apply pw_below_drewN | apply below_drew1) | exact HB.out)) hb); clear HB; have HO107 := n0_; have HB := n1_; clear n0_ n1_; (try clear hb); (try clear hb2); (try clear hk); (try clear hi); (try clear ho0); obtain ⟨Ao20, co20, eo20⟩ := Kd.R_slice HO107.out; subst eo20; have p108 : 0 ≤ (0 : Int) := (by omega); have q108 : 0 < (t104.length : Int) := of_decide_eq_true (by first | (with_reducible assumption) | assumption); obtain ⟨ad108, e108, hx108_0⟩ := Kd.at_int (Kd.R_reads' HO107.out).2.2 0 p108 q108; cases e108; have qi108 : (0 < t104.length) = True := eq_true (by omega); (try rw [show ((0 : Int)).toNat = 0 from rfl] at hx108_0); (try rw [Addr.add_zero'] at hx108_0); replace p108 := eq_true p108; replace q108 := eq_true q108))
       go_ret
       exact ⟨by first | rfl | (simp [errW_none, errW_some] <;> rfl) | (simp [*, errW_none, errW_some] <;> rfl), by repeat (first | (with_reducible first | exact HB.out | apply below_alloc | apply pw_below_drewN | apply below_drew1) | exact HB.out)⟩
     ·
      rw [if_neg c7] at H
      exact absurd H (by simp)
    ·
     rw [if_neg c6] at H
     have c6b0 : ((t104.length : Int) == 2) = false := beq_eq_false_iff_ne.mpr c6
     have c6b1 : ((t104.length : Int) != 2) = true := bne_iff_ne.mpr c6
     obtain rfl := Option.some.inj H
     go_enter Tryd.func14, Tryd.ntmps14
     go_wp2_with (first | ((with_reducible refine gate_callee (f := 10) rfl ?_); refine goesL_ (some 6) rfl rfl Tryd.func10 (by kernel_rfl) rfl #[.int .i64 6, .int .i64 11] rfl (by (try simp only [List.map_toArray, List.map_cons, List.map_nil]); first | done | rfl | (simp only [List.length_drop, List.length_take]; rfl)) ?_; (with_reducible refine (procedure_Next.calls k 6 11 t102 t103 _ ?side1 A1.out).mono ?_); (case side1 => exact GL_transitions.of_below (by repeat (first | (with_reducible first | exact HB.out | apply below_alloc | apply pw_below_drewN | apply below_drew1) | exact HB.out)) HG_transitions.out); rintro e w21 ⟨rfl, hb⟩; refine ⟨_, rfl, ?_⟩; have n0_ := Aside0.mk (below_step (by repeat (first | (with_reducible first | exact HB.out | apply below_alloc | apply pw_below_drewN | apply below_drew1) | exact HB.out)) hb); clear HB; have HB := n0_; clear n0_; (try clear hb); (try clear hb2); (try clear hk); (try clear hi)) | ((with_reducible refine gate_callee (f := 15) rfl ?_); refine goesL_ (some 10) rfl rfl Tryd.func15 (by kernel_rfl) rfl #[.int .i64 0, .int .i64 6] rfl (by (try simp only [List.map_toArray, List.map_cons, List.map_nil]); first | done | rfl | (simp only [List.length_drop, List.length_take]; rfl)) ?_; (with_reducible refine (procedure_Path.calls k 0 6 t104 true _ ?side1 A2.out).mono ?_); (case side1 => exact GL_transitions.of_below (by repeat (first | (with_reducible first | exact HB.out | apply below_alloc | apply pw_below_drewN | apply below_drew1) | exact HB.out)) HG_transitions.out); rintro e w22 ⟨v106, rfl, ho0, hb⟩; refine ⟨_, rfl, ?_⟩; have n0_ := Aside0.mk (Kd.R_lower ho0 (below_size (by repeat (first | (with_reducible first | exact HB.out | apply below_alloc | apply pw_below_drewN | apply below_drew1) | exact HB.out)))); have n1_ := Aside0.mk (below_step (by repeat (first | (with_reducible first | exact HB.out | apply below_alloc | apply pw_below_drewN | apply below_drew1) | exact HB.out)) hb); clear HB; have HO107 := n0_; have HB := n1_; clear n0_ n1_; (try clear hb); (try clear hb2); (try clear hk); (try clear hi); (try clear ho0); obtain ⟨Ao23, co23, eo23⟩ := Kd.R_slice HO107.out; subst eo23))
     go_ret
     exact ⟨by first | rfl | (simp [errW_none, errW_some] <;> rfl) | (simp [*, errW_none, errW_some] <;> rfl), by repeat (first | (with_reducible first | exact HB.out | apply below_alloc | apply pw_below_drewN | apply below_drew1) | exact HB.out)⟩
   ·
    replace c5 := Bool.eq_false_iff.mpr c5
    subst c5
    have H1 : (some false) = some r := by rw [if_neg (show ¬ (false = true) by decide)] at H; exact H
    clear H
    have H := H1
    clear H1
    obtain rfl := Option.some.inj H
    go_enter Tryd.func14, Tryd.ntmps14
    go_wp2_with (first | ((with_reducible refine gate_callee (f := 10) rfl ?_); refine goesL_ (some 6) rfl rfl Tryd.func10 (by kernel_rfl) rfl #[.int .i64 6, .int .i64 11] rfl (by (try simp only [List.map_toArray, List.map_cons, List.map_nil]); first | done | rfl | (simp only [List.length_drop, List.length_take]; rfl)) ?_; (with_reducible refine (procedure_Next.calls k 6 11 t102 t103 _ ?side1 A1.out).mono ?_); (case side1 => exact GL_transitions.of_below (by repeat (first | (with_reducible first | exact HB.out | apply below_alloc | apply pw_below_drewN | apply below_drew1) | exact HB.out)) HG_transitions.out); rintro e w24 ⟨rfl, hb⟩; refine ⟨_, rfl, ?_⟩; have n0_ := Aside0.mk (below_step (by repeat (first | (with_reducible first | exact HB.out | apply below_alloc | apply pw_below_drewN | apply below_drew1) | exact HB.out)) hb); clear HB; have HB := n0_; clear n0_; (try clear hb); (try clear hb2); (try clear hk); (try clear hi)) | ((with_reducible refine gate_callee (f := 15) rfl ?_); refine goesL_ (some 10) rfl rfl Tryd.func15 (by kernel_rfl) rfl #[.int .i64 0, .int .i64 6] rfl (by (try simp only [List.map_toArray, List.map_cons, List.map_nil]); first | done | rfl | (simp only [List.length_drop, List.length_take]; rfl)) ?_; (with_reducible refine (procedure_Path.calls k 0 6 t104 false _ ?side1 A2.out).mono ?_); (case side1 => exact GL_transitions.of_below (by repeat (first | (with_reducible first | exact HB.out | apply below_alloc | apply pw_below_drewN | apply below_drew1) | exact HB.out)) HG_transitions.out); rintro e w25 ⟨v106, rfl, ho0, hb⟩; refine ⟨_, rfl, ?_⟩; have n0_ := Aside0.mk (Kd.R_lower ho0 (below_size (by repeat (first | (with_reducible first | exact HB.out | apply below_alloc | apply pw_below_drewN | apply below_drew1) | exact HB.out)))); have n1_ := Aside0.mk (below_step (by repeat (first | (with_reducible first | exact HB.out | apply below_alloc | apply pw_below_drewN | apply below_drew1) | exact HB.out)) hb); clear HB; have HO107 := n0_; have HB := n1_; clear n0_ n1_; (try clear hb); (try clear hb2); (try clear hk); (try clear hi); (try clear ho0)))
    go_ret
    exact ⟨by first | rfl | (simp [errW_none, errW_some] <;> rfl) | (simp [*, errW_none, errW_some] <;> rfl), by repeat (first | (with_reducible first | exact HB.out | apply below_alloc | apply pw_below_drewN | apply below_drew1) | exact HB.out)⟩
  ·
   rw [if_neg c4] at H
   have c4b0 : (t103 == 0) = false := beq_eq_false_iff_ne.mpr c4
   have c4b1 : (t103 != 0) = true := bne_iff_ne.mpr c4
   obtain rfl := Option.some.inj H
   go_enter Tryd.func14, Tryd.ntmps14
   go_wp2_with (first | ((with_reducible refine gate_callee (f := 10) rfl ?_); refine goesL_ (some 6) rfl rfl Tryd.func10 (by kernel_rfl) rfl #[.int .i64 6, .int .i64 11] rfl (by (try simp only [List.map_toArray, List.map_cons, List.map_nil]); first | done | rfl | (simp only [List.length_drop, List.length_take]; rfl)) ?_; (with_reducible refine (procedure_Next.calls k 6 11 t102 t103 _ ?side1 A1.out).mono ?_); (case side1 => exact GL_transitions.of_below (by repeat (first | (with_reducible first | exact HB.out | apply below_alloc | apply pw_below_drewN | apply below_drew1) | exact HB.out)) HG_transitions.out); rintro e w26 ⟨rfl, hb⟩; refine ⟨_, rfl, ?_⟩; have n0_ := Aside0.mk (below_step (by repeat (first | (with_reducible first | exact HB.out | apply below_alloc | apply pw_below_drewN | apply below_drew1) | exact HB.out)) hb); clear HB; have HB := n0_; clear n0_; (try clear hb); (try clear hb2); (try clear hk); (try clear hi)) | ((with_reducible refine gate_callee (f := 15) rfl ?_); refine goesL_ (some 10) rfl rfl Tryd.func15 (by kernel_rfl) rfl #[.int .i64 0, .int .i64 6] rfl (by (try simp only [List.map_toArray, List.map_cons, List.map_nil]); first | done | rfl | (simp only [List.length_drop, List.length_take]; rfl)) ?_; (with_reducible refine (procedure_Path.calls k 0 6 t104 t105 _ ?side1 A2.out).mono ?_); (case side1 => exact GL_transitions.of_below (by repeat (first | (with_reducible first | exact HB.out | apply below_alloc | apply pw_below_drewN | apply below_drew1) | exact HB.out)) HG_transitions.out); rintro e w27 ⟨v106, rfl, ho0, hb⟩; refine ⟨_, rfl, ?_⟩; have n0_ := Aside0.mk (Kd.R_lower ho0 (below_size (by repeat (first | (with_reducible first | exact HB.out | apply below_alloc | apply pw_below_drewN | apply below_drew1) | exact HB.out)))); have n1_ := Aside0.mk (below_step (by repeat (first | (with_reducible first | exact HB.out | apply below_alloc | apply pw_below_drewN | apply below_drew1) | exact HB.out)) hb); clear HB; have HO107 := n0_; have HB := n1_; clear n0_ n1_; (try clear hb); (try clear hb2); (try clear hk); (try clear hi); (try clear ho0)))
   go_ret
   exact ⟨by first | rfl | (simp [errW_none, errW_some] <;> rfl) | (simp [*, errW_none, errW_some] <;> rfl), by repeat (first | (with_reducible first | exact HB.out | apply below_alloc | apply pw_below_drewN | apply below_drew1) | exact HB.out)⟩
 ·
  rw [if_neg c3] at H
  have c3b0 : (t102 == 9) = false := beq_eq_false_iff_ne.mpr c3
  have c3b1 : (t102 != 9) = true := bne_iff_ne.mpr c3
  obtain rfl := Option.some.inj H
  go_enter Tryd.func14, Tryd.ntmps14
  go_wp2_with (first | ((with_reducible refine gate_callee (f := 10) rfl ?_); refine goesL_ (some 6) rfl rfl Tryd.func10 (by kernel_rfl) rfl #[.int .i64 6, .int .i64 11] rfl (by (try simp only [List.map_toArray, List.map_cons, List.map_nil]); first | done | rfl | (simp only [List.length_drop, List.length_take]; rfl)) ?_; (with_reducible refine (procedure_Next.calls k 6 11 t102 t103 _ ?side1 A1.out).mono ?_); (case side1 => exact GL_transitions.of_below (by repeat (first | (with_reducible first | exact HB.out | apply below_alloc | apply pw_below_drewN | apply below_drew1) | exact HB.out)) HG_transitions.out); rintro e w28 ⟨rfl, hb⟩; refine ⟨_, rfl, ?_⟩; have n0_ := Aside0.mk (below_step (by repeat (first | (with_reducible first | exact HB.out | apply below_alloc | apply pw_below_drewN | apply below_drew1) | exact HB.out)) hb); clear HB; have HB := n0_; clear n0_; (try clear hb); (try clear hb2); (try clear hk); (try clear hi)) | ((with_reducible refine gate_callee (f := 15) rfl ?_); refine goesL_ (some 10) rfl rfl Tryd.func15 (by kernel_rfl) rfl #[.int .i64 0, .int .i64 6] rfl (by (try simp only [List.map_toArray, List.map_cons, List.map_nil]); first | done | rfl | (simp only [List.length_drop, List.length_take]; rfl)) ?_; (with_reducible refine (procedure_Path.calls k 0 6 t104 t105 _ ?side1 A2.out).mono ?_); (case side1 => exact GL_transitions.of_below (by repeat (first | (with_reducible first | exact HB.out | apply below_alloc | apply pw_below_drewN | apply below_drew1) | exact HB.out)) HG_transitions.out); rintro e w29 ⟨v106, rfl, ho0, hb⟩; refine ⟨_, rfl, ?_⟩; have n0_ := Aside0.mk (Kd.R_lower ho0 (below_size (by repeat (first | (with_reducible first | exact HB.out | apply below_alloc | apply pw_below_drewN | apply below_drew1) | exact HB.out)))); have n1_ := Aside0.mk (below_step (by repeat (first | (with_reducible first | exact HB.out | apply below_alloc | apply pw_below_drewN | apply below_drew1) | exact HB.out)) hb); clear HB; have HO107 := n0_; have HB := n1_; clear n0_ n1_; (try clear hb); (try clear hb2); (try clear hk); (try clear hi); (try clear ho0)))
  go_ret
  exact ⟨by first | rfl | (simp [errW_none, errW_some] <;> rfl) | (simp [*, errW_none, errW_some] <;> rfl), by repeat (first | (with_reducible first | exact HB.out | apply below_alloc | apply pw_below_drewN | apply below_drew1) | exact HB.out)⟩

mutual
def customsref24_Next.j0 : Nat → Int → Int → Bool → Option (Int × Int)
 | 0, _, _, _ => none
 | k + 1, x0, x1, x22 => if x22 = true then (some (0, 2)) else (if x0 = 1 then (customsref24_Next.j1 k x0 x1 true) else (customsref24_Next.j1 k x0 x1 (x0 == 3)))
def customsref24_Next.j1 : Nat → Int → Int → Bool → Option (Int × Int)
 | 0, _, _, _ => none
 | k + 1, x0, x1, x6 => if x6 = true then (customsref24_Next.j2 k x0 x1 x6 true) else (if x0 = 4 then (customsref24_Next.j2 k x0 x1 x6 true) else (customsref24_Next.j2 k x0 x1 x6 (x0 == 5)))
def customsref24_Next.j2 : Nat → Int → Int → Bool → Bool → Option (Int × Int)
 | 0, _, _, _, _ => none
 | k + 1, x0, x1, x6, x7 => if x1 = 1 then (if x0 = 0 then (if 1 = 0 then (some (0, 17)) else (some (1, 0))) else (if 0 = 0 then (some (0, 17)) else (some (0, 0)))) else (if x1 = 2 then (if x7 = true then (if 2 = 0 then (some (0, 17)) else (some (2, 0))) else (if 0 = 0 then (some (0, 17)) else (some (0, 0)))) else (if x1 = 3 then (if x0 = 2 then (if 1 = 0 then (some (0, 17)) else (some (1, 0))) else (if 0 = 0 then (some (0, 17)) else (some (0, 0)))) else (if x1 = 4 then (if x0 = 2 then (if 13 = 0 then (some (0, 17)) else (some (13, 0))) else (if 0 = 0 then (some (0, 17)) else (some (0, 0)))) else (if x1 = 5 then (if x7 = true then (customsref24_Next.j3 k 0 (x0 != 3)) else (customsref24_Next.j3 k 0 false)) else (if x1 = 6 then (if x6 = true then (if 4 = 0 then (some (0, 17)) else (some (4, 0))) else (if 0 = 0 then (some (0, 17)) else (some (0, 0)))) else (if x1 = 7 then (if x6 = true then (if 5 = 0 then (some (0, 17)) else (some (5, 0))) else (if 0 = 0 then (some (0, 17)) else (some (0, 0)))) else (if x1 = 8 then (if x7 = true then (if 6 = 0 then (some (0, 17)) else (some (6, 0))) else (if 0 = 0 then (some (0, 17)) else (some (0, 0)))) else (if x1 = 9 then (if x0 = 6 then (if 7 = 0 then (some (0, 17)) else (some (7, 0))) else (if 0 = 0 then (some (0, 17)) else (some (0, 0)))) else (if x1 = 10 then (if x0 = 7 then (if 6 = 0 then (some (0, 17)) else (some (6, 0))) else (if 0 = 0 then (some (0, 17)) else (some (0, 0)))) else (if x1 = 11 then (if x7 = true then (customsref24_Next.j4 k x0 8) else (customsref24_Next.j4 k x0 0)) else (if x1 = 12 then (if x7 = true then (if 10 = 0 then (some (0, 17)) else (some (10, 0))) else (if 0 = 0 then (some (0, 17)) else (some (0, 0)))) else (if x1 = 13 then (if x6 = true then (if 11 = 0 then (some (0, 17)) else (some (11, 0))) else (if 0 = 0 then (some (0, 17)) else (some (0, 0)))) else (if x1 = 14 then (if x7 = true then (customsref24_Next.j5 k 0 true) else (customsref24_Next.j5 k 0 (x0 == 2))) else (if 0 = 0 then (some (0, 17)) else (some (0, 0))))))))))))))))
def customsref24_Next.j3 : Nat → Int → Bool → Option (Int × Int)
 | 0, _, _ => none
 | k + 1, x8, x60 => if x60 = true then (if 3 = 0 then (some (0, 17)) else (some (3, 0))) else (if x8 = 0 then (some (0, 17)) else (some (x8, 0)))
def customsref24_Next.j4 : Nat → Int → Int → Option (Int × Int)
 | 0, _, _ => none
 | k + 1, x0, x8 => if x0 = 6 then (if 9 = 0 then (some (0, 17)) else (some (9, 0))) else (if x8 = 0 then (some (0, 17)) else (some (x8, 0)))
def customsref24_Next.j5 : Nat → Int → Bool → Option (Int × Int)
 | 0, _, _ => none
 | k + 1, x8, x95 => if x95 = true then (if 12 = 0 then (some (0, 17)) else (some (12, 0))) else (if x8 = 0 then (some (0, 17)) else (some (x8, 0)))
end
def customsref24_Next.f (k : Nat) (a0 : Int) (a1 : Int) : Option (Int × Int) := if a0 < 0 then (customsref24_Next.j0 k a0 a1 true) else (if a0 > 13 then (customsref24_Next.j0 k a0 a1 true) else (if a1 < 1 then (customsref24_Next.j0 k a0 a1 true) else (customsref24_Next.j0 k a0 a1 (decide (a1 > 14)))))
theorem customsref24_Next.mono_l : ∀ k, (∀ y0 y1 y2, LeO (customsref24_Next.j0 k y0 y1 y2) (customsref24_Next.j0 (k + 1) y0 y1 y2)) ∧ (∀ y0 y1 y2, LeO (customsref24_Next.j1 k y0 y1 y2) (customsref24_Next.j1 (k + 1) y0 y1 y2)) ∧ (∀ y0 y1 y2 y3, LeO (customsref24_Next.j2 k y0 y1 y2 y3) (customsref24_Next.j2 (k + 1) y0 y1 y2 y3)) ∧ (∀ y0 y1, LeO (customsref24_Next.j3 k y0 y1) (customsref24_Next.j3 (k + 1) y0 y1)) ∧ (∀ y0 y1, LeO (customsref24_Next.j4 k y0 y1) (customsref24_Next.j4 (k + 1) y0 y1)) ∧ (∀ y0 y1, LeO (customsref24_Next.j5 k y0 y1) (customsref24_Next.j5 (k + 1) y0 y1))
 | 0 => ⟨fun _ _ _ r h => by simp [customsref24_Next.j0] at h, fun _ _ _ r h => by simp [customsref24_Next.j1] at h, fun _ _ _ _ r h => by simp [customsref24_Next.j2] at h, fun _ _ r h => by simp [customsref24_Next.j3] at h, fun _ _ r h => by simp [customsref24_Next.j4] at h, fun _ _ r h => by simp [customsref24_Next.j5] at h⟩
 | k + 1 => by
  obtain ⟨ih0, ih1, ih2, ih3, ih4, ih5⟩ := customsref24_Next.mono_l k
  refine ⟨?_, ?_, ?_, ?_, ?_, ?_⟩
  ·
   intro y0 y1 y2
   unfold customsref24_Next.j0
   repeat' first
   | (with_reducible exact ih0 _ _ _)
   | (with_reducible exact ih1 _ _ _)
   | (with_reducible exact ih2 _ _ _ _)
   | (with_reducible exact ih3 _ _)
   | (with_reducible exact ih4 _ _)
   | (with_reducible exact ih5 _ _)
   | (with_reducible exact LeO.refl _)
   | (with_reducible exact LeO.none _)
   | (with_reducible refine LeO.ite ?_ ?_)
   | (with_reducible refine LeO.bind ?_ (fun _ => ?_))
   | exact ih0 _ _ _
   | exact ih1 _ _ _
   | exact ih2 _ _ _ _
   | exact ih3 _ _
   | exact ih4 _ _
   | exact ih5 _ _
   | exact LeO.none _
   | refine LeO.ite ?_ ?_
   | refine LeO.bind ?_ (fun _ => ?_)
  ·
   intro y0 y1 y2
   unfold customsref24_Next.j1
   repeat' first
   | (with_reducible exact ih0 _ _ _)
   | (with_reducible exact ih1 _ _ _)
   | (with_reducible exact ih2 _ _ _ _)
   | (with_reducible exact ih3 _ _)
   | (with_reducible exact ih4 _ _)
   | (with_reducible exact ih5 _ _)
   | (with_reducible exact LeO.refl _)
   | (with_reducible exact LeO.none _)
   | (with_reducible refine LeO.ite ?_ ?_)
   | (with_reducible refine LeO.bind ?_ (fun _ => ?_))
   | exact ih0 _ _ _
   | exact ih1 _ _ _
   | exact ih2 _ _ _ _
   | exact ih3 _ _
   | exact ih4 _ _
   | exact ih5 _ _
   | exact LeO.none _
   | refine LeO.ite ?_ ?_
   | refine LeO.bind ?_ (fun _ => ?_)
  ·
   intro y0 y1 y2 y3
   unfold customsref24_Next.j2
   repeat' first
   | (with_reducible exact ih0 _ _ _)
   | (with_reducible exact ih1 _ _ _)
   | (with_reducible exact ih2 _ _ _ _)
   | (with_reducible exact ih3 _ _)
   | (with_reducible exact ih4 _ _)
   | (with_reducible exact ih5 _ _)
   | (with_reducible exact LeO.refl _)
   | (with_reducible exact LeO.none _)
   | (with_reducible refine LeO.ite ?_ ?_)
   | (with_reducible refine LeO.bind ?_ (fun _ => ?_))
   | exact ih0 _ _ _
   | exact ih1 _ _ _
   | exact ih2 _ _ _ _
   | exact ih3 _ _
   | exact ih4 _ _
   | exact ih5 _ _
   | exact LeO.none _
   | refine LeO.ite ?_ ?_
   | refine LeO.bind ?_ (fun _ => ?_)
  ·
   intro y0 y1
   unfold customsref24_Next.j3
   repeat' first
   | (with_reducible exact ih0 _ _ _)
   | (with_reducible exact ih1 _ _ _)
   | (with_reducible exact ih2 _ _ _ _)
   | (with_reducible exact ih3 _ _)
   | (with_reducible exact ih4 _ _)
   | (with_reducible exact ih5 _ _)
   | (with_reducible exact LeO.refl _)
   | (with_reducible exact LeO.none _)
   | (with_reducible refine LeO.ite ?_ ?_)
   | (with_reducible refine LeO.bind ?_ (fun _ => ?_))
   | exact ih0 _ _ _
   | exact ih1 _ _ _
   | exact ih2 _ _ _ _
   | exact ih3 _ _
   | exact ih4 _ _
   | exact ih5 _ _
   | exact LeO.none _
   | refine LeO.ite ?_ ?_
   | refine LeO.bind ?_ (fun _ => ?_)
  ·
   intro y0 y1
   unfold customsref24_Next.j4
   repeat' first
   | (with_reducible exact ih0 _ _ _)
   | (with_reducible exact ih1 _ _ _)
   | (with_reducible exact ih2 _ _ _ _)
   | (with_reducible exact ih3 _ _)
   | (with_reducible exact ih4 _ _)
   | (with_reducible exact ih5 _ _)
   | (with_reducible exact LeO.refl _)
   | (with_reducible exact LeO.none _)
   | (with_reducible refine LeO.ite ?_ ?_)
   | (with_reducible refine LeO.bind ?_ (fun _ => ?_))
   | exact ih0 _ _ _
   | exact ih1 _ _ _
   | exact ih2 _ _ _ _
   | exact ih3 _ _
   | exact ih4 _ _
   | exact ih5 _ _
   | exact LeO.none _
   | refine LeO.ite ?_ ?_
   | refine LeO.bind ?_ (fun _ => ?_)
  ·
   intro y0 y1
   unfold customsref24_Next.j5
   repeat' first
   | (with_reducible exact ih0 _ _ _)
   | (with_reducible exact ih1 _ _ _)
   | (with_reducible exact ih2 _ _ _ _)
   | (with_reducible exact ih3 _ _)
   | (with_reducible exact ih4 _ _)
   | (with_reducible exact ih5 _ _)
   | (with_reducible exact LeO.refl _)
   | (with_reducible exact LeO.none _)
   | (with_reducible refine LeO.ite ?_ ?_)
   | (with_reducible refine LeO.bind ?_ (fun _ => ?_))
   | exact ih0 _ _ _
   | exact ih1 _ _ _
   | exact ih2 _ _ _ _
   | exact ih3 _ _
   | exact ih4 _ _
   | exact ih5 _ _
   | exact LeO.none _
   | refine LeO.ite ?_ ?_
   | refine LeO.bind ?_ (fun _ => ?_)
theorem customsref24_Next.mono : ∀ a0 a1 k, LeO (customsref24_Next.f k a0 a1) (customsref24_Next.f (k + 1) a0 a1) := by
 intro a0 a1 k
 obtain ⟨ih0, ih1, ih2, ih3, ih4, ih5⟩ := customsref24_Next.mono_l k
 unfold customsref24_Next.f
 repeat' first
   | (with_reducible exact ih0 _ _ _)
   | (with_reducible exact ih1 _ _ _)
   | (with_reducible exact ih2 _ _ _ _)
   | (with_reducible exact ih3 _ _)
   | (with_reducible exact ih4 _ _)
   | (with_reducible exact ih5 _ _)
   | (with_reducible exact LeO.refl _)
   | (with_reducible exact LeO.none _)
   | (with_reducible refine LeO.ite ?_ ?_)
   | (with_reducible refine LeO.bind ?_ (fun _ => ?_))
   | exact ih0 _ _ _
   | exact ih1 _ _ _
   | exact ih2 _ _ _ _
   | exact ih3 _ _
   | exact ih4 _ _
   | exact ih5 _ _
   | exact LeO.none _
   | refine LeO.ite ?_ ?_
   | refine LeO.bind ?_ (fun _ => ?_)
set_option maxHeartbeats 8000000 in
set_option maxRecDepth 100000 in
theorem customsref24_Next.calls (k : Nat) (a0 : Int) (a1 : Int) (r1 : Int) (r2 : Int) (w : World) (h : customsref24_Next.f k a0 a1 = some (r1, r2)) :
  Calls Tryd.prog 11 #[.int .i64 a0, .int .i64 a1] w fun e w' => e = .returned (.tuple #[.int .i64 r1, .int .i64 r2]) ∧ Drawn0 w w' := by
 have H : (if a0 < 0 then (customsref24_Next.j0 k a0 a1 true) else (if a0 > 13 then (customsref24_Next.j0 k a0 a1 true) else (if a1 < 1 then (customsref24_Next.j0 k a0 a1 true) else (customsref24_Next.j0 k a0 a1 (decide (a1 > 14)))))) = some (r1, r2) := h
 clear h
 have HC3 := Aside0.mk H
 clear H
 go_enter Tryd.func11, Tryd.ntmps11
 go_upto_region 1 with (fail)
 go_cut [22] (fun v22 wc => ∃ (kq : Nat) (x22_2 : Bool), v22 = .bool x22_2 ∧ Aside0 (customsref24_Next.j0 kq a0 a1 x22_2 = some (r1, r2)) ∧ Aside0 (kq ≤ k) ∧ Drawn0 w wc)
 case first =>
  have H := HC3.out
  clear HC3
  by_cases c4 : a0 < 0
  ·
   rw [if_pos c4] at H
   have c4b0 : decide (a0 < 0) = true := decide_eq_true c4
   clear c4
   (first | rw [c4b0] | (simp only [i64_w, i32_w]; rw [c4b0]) | skip)
   have H' := Aside0.mk H
   clear H
   go_wp2
   go_meet
   case rel => exact ⟨_, (true), (by first | rfl | (simp; done) | (simp [*]; done)), H', ⟨by first | omega | exact Nat.le_refl _⟩, by repeat (first | exact Drawn0.refl _ | apply Drawn0.step)⟩
  ·
   rw [if_neg c4] at H
   have c4b0 : decide (a0 < 0) = false := decide_eq_false c4
   clear c4
   (first | rw [c4b0] | (simp only [i64_w, i32_w]; rw [c4b0]) | skip)
   by_cases c5 : a0 > 13
   ·
    rw [if_pos c5] at H
    have c5b0 : decide (13 < a0) = true := decide_eq_true c5
    clear c5
    have H' := Aside0.mk H
    clear H
    go_wp2
    go_meet
    case rel => exact ⟨_, (true), (by first | rfl | (simp; done) | (simp [*]; done)), H', ⟨by first | omega | exact Nat.le_refl _⟩, by repeat (first | exact Drawn0.refl _ | apply Drawn0.step)⟩
   ·
    rw [if_neg c5] at H
    have c5b0 : decide (13 < a0) = false := decide_eq_false c5
    clear c5
    by_cases c6 : a1 < 1
    ·
     rw [if_pos c6] at H
     have c6b0 : decide (a1 < 1) = true := decide_eq_true c6
     clear c6
     have H' := Aside0.mk H
     clear H
     go_wp2
     go_meet
     case rel => exact ⟨_, (true), (by first | rfl | (simp; done) | (simp [*]; done)), H', ⟨by first | omega | exact Nat.le_refl _⟩, by repeat (first | exact Drawn0.refl _ | apply Drawn0.step)⟩
    ·
     rw [if_neg c6] at H
     have c6b0 : decide (a1 < 1) = false := decide_eq_false c6
     clear c6
     have H' := Aside0.mk H
     clear H
     go_wp2
     go_meet
     case rel => exact ⟨_, (decide (a1 > 14)), (by first | rfl | (simp; done) | (simp [*]; done)), H', ⟨by first | omega | exact Nat.le_refl _⟩, by repeat (first | exact Drawn0.refl _ | apply Drawn0.step)⟩
 case rest =>
  clear HC3
  try clear c1
  try clear p2
  try clear c4
  try clear c4b0
  try clear c5
  try clear c5b0
  try clear c6
  try clear c6b0
  obtain ⟨kq, x22_2, rfl, HA, HJ2, ⟨mc2, rfl⟩⟩ := hcut
  cases kq with
  | zero => exact absurd HA.out (by simp [customsref24_Next.j0])
  | succ kj2 =>
   have H := HA.out
   clear HA
   simp only [customsref24_Next.j0] at H
   by_cases c7 : x22_2 = true
   ·
    subst c7
    have H1 : (some (0, 2)) = some (r1, r2) := by rw [if_pos rfl] at H; exact H
    clear H
    have H := H1
    clear H1
    simp only [Option.some.injEq, Prod.mk.injEq] at H
    obtain ⟨rfl, rfl⟩ := H
    go_wp2
    go_ret2
    exact ⟨by first | rfl | (simp; done) | (simp [*]; done), by repeat (first | exact Drawn0.refl _ | apply Drawn0.step)⟩
   ·
    replace c7 := Bool.eq_false_iff.mpr c7
    subst c7
    have H1 : (if a0 = 1 then (customsref24_Next.j1 kj2 a0 a1 true) else (customsref24_Next.j1 kj2 a0 a1 (a0 == 3))) = some (r1, r2) := by rw [if_neg (show ¬ (false = true) by decide)] at H; exact H
    clear H
    have H := H1
    clear H1
    have HC8 := Aside0.mk H
    clear H
    go_upto_region 3 with (fail)
    go_cut [6] (fun v6 wc => ∃ (kq : Nat) (x6_7 : Bool), v6 = .bool x6_7 ∧ Aside0 (customsref24_Next.j1 kq a0 a1 x6_7 = some (r1, r2)) ∧ Aside0 (kq ≤ kj2) ∧ Drawn0 w wc)
    case first =>
     have H := HC8.out
     clear HC8
     by_cases c9 : a0 = 1
     ·
      rw [if_pos c9] at H
      have c9b0 : (a0 == 1) = true := beq_iff_eq.mpr c9
      have c9b1 : (a0 != 1) = false := bne_eq_false_iff_eq.mpr c9
      clear c9
      (first | rw [c9b0] | (simp only [i64_w, i32_w]; rw [c9b0]) | skip)
      have H' := Aside0.mk H
      clear H
      go_wp2
      go_meet
      case rel => exact ⟨_, (true), (by first | rfl | (simp; done) | (simp [*]; done)), H', ⟨by have := HJ2.out; first | omega | exact Nat.le_refl _⟩, by repeat (first | exact Drawn0.refl _ | apply Drawn0.step)⟩
     ·
      rw [if_neg c9] at H
      have c9b0 : (a0 == 1) = false := beq_eq_false_iff_ne.mpr c9
      have c9b1 : (a0 != 1) = true := bne_iff_ne.mpr c9
      (first | rw [c9b0] | (simp only [i64_w, i32_w]; rw [c9b0]) | skip)
      have H' := Aside0.mk H
      clear H
      go_wp2
      go_meet
      case rel => exact ⟨_, ((a0 == 3)), (by first | rfl | (simp; done) | (simp [*]; done)), H', ⟨by have := HJ2.out; first | omega | exact Nat.le_refl _⟩, by repeat (first | exact Drawn0.refl _ | apply Drawn0.step)⟩
    case rest =>
     clear HC8
     try clear c1
     try clear c2
     try clear p2
     try clear c4
     try clear c4b0
     try clear c5
     try clear c5b0
     try clear c6
     try clear c6b0
     try clear c7
     try clear c9
     try clear c9b0
     try clear c9b1
     try clear p2
     obtain ⟨kq, x6_7, rfl, HA, HJ7, ⟨mc7, rfl⟩⟩ := hcut
     cases kq with
     | zero => exact absurd HA.out (by simp [customsref24_Next.j1])
     | succ kj7 =>
      have H := HA.out
      clear HA
      simp only [customsref24_Next.j1] at H
      have HC10 := Aside0.mk H
      clear H
      go_upto_region 4 with (fail)
      go_cut [7] (fun v7 wc => ∃ (kq : Nat) (x7_9 : Bool), v7 = .bool x7_9 ∧ Aside0 (customsref24_Next.j2 kq a0 a1 x6_7 x7_9 = some (r1, r2)) ∧ Aside0 (kq ≤ kj7) ∧ Drawn0 w wc)
      case first =>
       have H := HC10.out
       clear HC10
       by_cases c11 : x6_7 = true
       ·
        subst c11
        have H1 : (customsref24_Next.j2 kj7 a0 a1 true true) = some (r1, r2) := by rw [if_pos rfl] at H; exact H
        clear H
        have H := H1
        clear H1
        have H' := Aside0.mk H
        clear H
        go_wp2
        go_meet
        case rel => exact ⟨_, (true), (by first | rfl | (simp; done) | (simp [*]; done)), H', ⟨by have := HJ2.out; have := HJ7.out; first | omega | exact Nat.le_refl _⟩, by repeat (first | exact Drawn0.refl _ | apply Drawn0.step)⟩
       ·
        replace c11 := Bool.eq_false_iff.mpr c11
        subst c11
        have H1 : (if a0 = 4 then (customsref24_Next.j2 kj7 a0 a1 false true) else (customsref24_Next.j2 kj7 a0 a1 false (a0 == 5))) = some (r1, r2) := by rw [if_neg (show ¬ (false = true) by decide)] at H; exact H
        clear H
        have H := H1
        clear H1
        by_cases c12 : a0 = 4
        ·
         rw [if_pos c12] at H
         have c12b0 : (a0 == 4) = true := beq_iff_eq.mpr c12
         have c12b1 : (a0 != 4) = false := bne_eq_false_iff_eq.mpr c12
         clear c12
         (first | rw [c12b0] | (simp only [i64_w, i32_w]; rw [c12b0]) | skip)
         have H' := Aside0.mk H
         clear H
         go_wp2
         go_meet
         case rel => exact ⟨_, (true), (by first | rfl | (simp; done) | (simp [*]; done)), H', ⟨by have := HJ2.out; have := HJ7.out; first | omega | exact Nat.le_refl _⟩, by repeat (first | exact Drawn0.refl _ | apply Drawn0.step)⟩
        ·
         rw [if_neg c12] at H
         have c12b0 : (a0 == 4) = false := beq_eq_false_iff_ne.mpr c12
         have c12b1 : (a0 != 4) = true := bne_iff_ne.mpr c12
         (first | rw [c12b0] | (simp only [i64_w, i32_w]; rw [c12b0]) | skip)
         have H' := Aside0.mk H
         clear H
         go_wp2
         go_meet
         case rel => exact ⟨_, ((a0 == 5)), (by first | rfl | (simp; done) | (simp [*]; done)), H', ⟨by have := HJ2.out; have := HJ7.out; first | omega | exact Nat.le_refl _⟩, by repeat (first | exact Drawn0.refl _ | apply Drawn0.step)⟩
      case rest =>
       clear HC10
       try clear c1
       try clear c2
       try clear p2
       try clear c4
       try clear c4b0
       try clear c5
       try clear c5b0
       try clear c6
       try clear c6b0
       try clear c7
       try clear c9
       try clear c9b0
       try clear c9b1
       try clear c11
       try clear c12
       try clear c12b0
       try clear c12b1
       try clear p2
       obtain ⟨kq, x7_9, rfl, HA, HJ9, ⟨mc9, rfl⟩⟩ := hcut
       cases kq with
       | zero => exact absurd HA.out (by simp [customsref24_Next.j2])
       | succ kj9 =>
        have H := HA.out
        clear HA
        simp only [customsref24_Next.j2] at H
        by_cases c13 : a1 = 1
        ·
         rw [if_pos c13] at H
         have c13b0 : (a1 == 1) = true := beq_iff_eq.mpr c13
         have c13b1 : (a1 != 1) = false := bne_eq_false_iff_eq.mpr c13
         clear c13
         by_cases c14 : a0 = 0
         ·
          rw [if_pos c14] at H
          have c14b0 : (a0 == 0) = true := beq_iff_eq.mpr c14
          have c14b1 : (a0 != 0) = false := bne_eq_false_iff_eq.mpr c14
          clear c14
          have H1 : (some (1, 0)) = some (r1, r2) := by first | exact H | (rw [if_neg (by decide)] at H; exact H) | (simpa using H)
          clear H
          have H := H1
          clear H1
          simp only [Option.some.injEq, Prod.mk.injEq] at H
          obtain ⟨rfl, rfl⟩ := H
          go_wp2
          go_ret2
          exact ⟨by first | rfl | (simp; done) | (simp [*]; done), by repeat (first | exact Drawn0.refl _ | apply Drawn0.step)⟩
         ·
          rw [if_neg c14] at H
          have c14b0 : (a0 == 0) = false := beq_eq_false_iff_ne.mpr c14
          have c14b1 : (a0 != 0) = true := bne_iff_ne.mpr c14
          have H1 : (some (0, 17)) = some (r1, r2) := by first | exact H | (rw [if_pos (by decide)] at H; exact H) | (simpa using H)
          clear H
          have H := H1
          clear H1
          simp only [Option.some.injEq, Prod.mk.injEq] at H
          obtain ⟨rfl, rfl⟩ := H
          go_wp2
          go_ret2
          exact ⟨by first | rfl | (simp; done) | (simp [*]; done), by repeat (first | exact Drawn0.refl _ | apply Drawn0.step)⟩
        ·
         rw [if_neg c13] at H
         have c13b0 : (a1 == 1) = false := beq_eq_false_iff_ne.mpr c13
         have c13b1 : (a1 != 1) = true := bne_iff_ne.mpr c13
         by_cases c15 : a1 = 2
         ·
          rw [if_pos c15] at H
          have c15b0 : (a1 == 2) = true := beq_iff_eq.mpr c15
          have c15b1 : (a1 != 2) = false := bne_eq_false_iff_eq.mpr c15
          clear c15
          by_cases c16 : x7_9 = true
          ·
           subst c16
           have H1 : (if 2 = 0 then (some (0, 17)) else (some (2, 0))) = some (r1, r2) := by rw [if_pos rfl] at H; exact H
           clear H
           have H := H1
           clear H1
           have H1 : (some (2, 0)) = some (r1, r2) := by first | exact H | (rw [if_neg (by decide)] at H; exact H) | (simpa using H)
           clear H
           have H := H1
           clear H1
           simp only [Option.some.injEq, Prod.mk.injEq] at H
           obtain ⟨rfl, rfl⟩ := H
           go_wp2
           go_ret2
           exact ⟨by first | rfl | (simp; done) | (simp [*]; done), by repeat (first | exact Drawn0.refl _ | apply Drawn0.step)⟩
          ·
           replace c16 := Bool.eq_false_iff.mpr c16
           subst c16
           have H1 : (if 0 = 0 then (some (0, 17)) else (some (0, 0))) = some (r1, r2) := by rw [if_neg (show ¬ (false = true) by decide)] at H; exact H
           clear H
           have H := H1
           clear H1
           have H1 : (some (0, 17)) = some (r1, r2) := by first | exact H | (rw [if_pos (by decide)] at H; exact H) | (simpa using H)
           clear H
           have H := H1
           clear H1
           simp only [Option.some.injEq, Prod.mk.injEq] at H
           obtain ⟨rfl, rfl⟩ := H
           go_wp2
           go_ret2
           exact ⟨by first | rfl | (simp; done) | (simp [*]; done), by repeat (first | exact Drawn0.refl _ | apply Drawn0.step)⟩
         ·
          rw [if_neg c15] at H
          have c15b0 : (a1 == 2) = false := beq_eq_false_iff_ne.mpr c15
          have c15b1 : (a1 != 2) = true := bne_iff_ne.mpr c15
          by_cases c17 : a1 = 3
          ·
           rw [if_pos c17] at H
           have c17b0 : (a1 == 3) = true := beq_iff_eq.mpr c17
           have c17b1 : (a1 != 3) = false := bne_eq_false_iff_eq.mpr c17
           clear c17
           by_cases c18 : a0 = 2
           ·
            rw [if_pos c18] at H
            have c18b0 : (a0 == 2) = true := beq_iff_eq.mpr c18
            have c18b1 : (a0 != 2) = false := bne_eq_false_iff_eq.mpr c18
            clear c18
            have H1 : (some (1, 0)) = some (r1, r2) := by first | exact H | (rw [if_neg (by decide)] at H; exact H) | (simpa using H)
            clear H
            have H := H1
            clear H1
            simp only [Option.some.injEq, Prod.mk.injEq] at H
            obtain ⟨rfl, rfl⟩ := H
            go_wp2
            go_ret2
            exact ⟨by first | rfl | (simp; done) | (simp [*]; done), by repeat (first | exact Drawn0.refl _ | apply Drawn0.step)⟩
           ·
            rw [if_neg c18] at H
            have c18b0 : (a0 == 2) = false := beq_eq_false_iff_ne.mpr c18
            have c18b1 : (a0 != 2) = true := bne_iff_ne.mpr c18
            have H1 : (some (0, 17)) = some (r1, r2) := by first | exact H | (rw [if_pos (by decide)] at H; exact H) | (simpa using H)
            clear H
            have H := H1
            clear H1
            simp only [Option.some.injEq, Prod.mk.injEq] at H
            obtain ⟨rfl, rfl⟩ := H
            go_wp2
            go_ret2
            exact ⟨by first | rfl | (simp; done) | (simp [*]; done), by repeat (first | exact Drawn0.refl _ | apply Drawn0.step)⟩
          ·
           rw [if_neg c17] at H
           have c17b0 : (a1 == 3) = false := beq_eq_false_iff_ne.mpr c17
           have c17b1 : (a1 != 3) = true := bne_iff_ne.mpr c17
           by_cases c19 : a1 = 4
           ·
            rw [if_pos c19] at H
            have c19b0 : (a1 == 4) = true := beq_iff_eq.mpr c19
            have c19b1 : (a1 != 4) = false := bne_eq_false_iff_eq.mpr c19
            clear c19
            by_cases c20 : a0 = 2
            ·
             rw [if_pos c20] at H
             have c20b0 : (a0 == 2) = true := beq_iff_eq.mpr c20
             have c20b1 : (a0 != 2) = false := bne_eq_false_iff_eq.mpr c20
             clear c20
             have H1 : (some (13, 0)) = some (r1, r2) := by first | exact H | (rw [if_neg (by decide)] at H; exact H) | (simpa using H)
             clear H
             have H := H1
             clear H1
             simp only [Option.some.injEq, Prod.mk.injEq] at H
             obtain ⟨rfl, rfl⟩ := H
             go_wp2
             go_ret2
             exact ⟨by first | rfl | (simp; done) | (simp [*]; done), by repeat (first | exact Drawn0.refl _ | apply Drawn0.step)⟩
            ·
             rw [if_neg c20] at H
             have c20b0 : (a0 == 2) = false := beq_eq_false_iff_ne.mpr c20
             have c20b1 : (a0 != 2) = true := bne_iff_ne.mpr c20
             have H1 : (some (0, 17)) = some (r1, r2) := by first | exact H | (rw [if_pos (by decide)] at H; exact H) | (simpa using H)
             clear H
             have H := H1
             clear H1
             simp only [Option.some.injEq, Prod.mk.injEq] at H
             obtain ⟨rfl, rfl⟩ := H
             go_wp2
             go_ret2
             exact ⟨by first | rfl | (simp; done) | (simp [*]; done), by repeat (first | exact Drawn0.refl _ | apply Drawn0.step)⟩
           ·
            rw [if_neg c19] at H
            have c19b0 : (a1 == 4) = false := beq_eq_false_iff_ne.mpr c19
            have c19b1 : (a1 != 4) = true := bne_iff_ne.mpr c19
            by_cases c21 : a1 = 5
            ·
             rw [if_pos c21] at H
             have c21b0 : (a1 == 5) = true := beq_iff_eq.mpr c21
             have c21b1 : (a1 != 5) = false := bne_eq_false_iff_eq.mpr c21
             clear c21
             have HC22 := Aside0.mk H
             clear H
             go_upto_region 20 with (fail)
             go_cut [60] (fun v60 wc => ∃ (kq : Nat) (x60_21 : Bool), v60 = .bool x60_21 ∧ Aside0 (customsref24_Next.j3 kq 0 x60_21 = some (r1, r2)) ∧ Aside0 (kq ≤ kj9) ∧ Drawn0 w wc)
             case first =>
              have H := HC22.out
              clear HC22
              by_cases c23 : x7_9 = true
              ·
               subst c23
               have H1 : (customsref24_Next.j3 kj9 0 (a0 != 3)) = some (r1, r2) := by rw [if_pos rfl] at H; exact H
               clear H
               have H := H1
               clear H1
               have H' := Aside0.mk H
               clear H
               go_wp2
               go_meet
               case rel => exact ⟨_, ((a0 != 3)), (by first | rfl | (simp; done) | (simp [*]; done)), H', ⟨by have := HJ2.out; have := HJ7.out; have := HJ9.out; first | omega | exact Nat.le_refl _⟩, by repeat (first | exact Drawn0.refl _ | apply Drawn0.step)⟩
              ·
               replace c23 := Bool.eq_false_iff.mpr c23
               subst c23
               have H1 : (customsref24_Next.j3 kj9 0 false) = some (r1, r2) := by rw [if_neg (show ¬ (false = true) by decide)] at H; exact H
               clear H
               have H := H1
               clear H1
               have H' := Aside0.mk H
               clear H
               go_wp2
               go_meet
               case rel => exact ⟨_, (false), (by first | rfl | (simp; done) | (simp [*]; done)), H', ⟨by have := HJ2.out; have := HJ7.out; have := HJ9.out; first | omega | exact Nat.le_refl _⟩, by repeat (first | exact Drawn0.refl _ | apply Drawn0.step)⟩
             case rest =>
              clear HC22
              try clear c1
              try clear c2
              try clear p2
              try clear c4
              try clear c4b0
              try clear c5
              try clear c5b0
              try clear c6
              try clear c6b0
              try clear c7
              try clear c9
              try clear c9b0
              try clear c9b1
              try clear c11
              try clear c12
              try clear c12b0
              try clear c12b1
              try clear c13
              try clear c13b0
              try clear c13b1
              try clear c14
              try clear c14b0
              try clear c14b1
              try clear c15
              try clear c15b0
              try clear c15b1
              try clear c16
              try clear c17
              try clear c17b0
              try clear c17b1
              try clear c18
              try clear c18b0
              try clear c18b1
              try clear c19
              try clear c19b0
              try clear c19b1
              try clear c20
              try clear c20b0
              try clear c20b1
              try clear c21
              try clear c21b0
              try clear c21b1
              try clear c23
              try clear p2
              obtain ⟨kq, x60_21, rfl, HA, HJ21, ⟨mc21, rfl⟩⟩ := hcut
              cases kq with
              | zero => exact absurd HA.out (by simp [customsref24_Next.j3])
              | succ kj21 =>
               have H := HA.out
               clear HA
               simp only [customsref24_Next.j3] at H
               by_cases c24 : x60_21 = true
               ·
                subst c24
                have H1 : (if 3 = 0 then (some (0, 17)) else (some (3, 0))) = some (r1, r2) := by rw [if_pos rfl] at H; exact H
                clear H
                have H := H1
                clear H1
                have H1 : (some (3, 0)) = some (r1, r2) := by first | exact H | (rw [if_neg (by decide)] at H; exact H) | (simpa using H)
                clear H
                have H := H1
                clear H1
                simp only [Option.some.injEq, Prod.mk.injEq] at H
                obtain ⟨rfl, rfl⟩ := H
                go_wp2
                go_ret2
                exact ⟨by first | rfl | (simp; done) | (simp [*]; done), by repeat (first | exact Drawn0.refl _ | apply Drawn0.step)⟩
               ·
                replace c24 := Bool.eq_false_iff.mpr c24
                subst c24
                have H1 : (if 0 = 0 then (some (0, 17)) else (some (0, 0))) = some (r1, r2) := by rw [if_neg (show ¬ (false = true) by decide)] at H; exact H
                clear H
                have H := H1
                clear H1
                have H1 : (some (0, 17)) = some (r1, r2) := by first | exact H | (rw [if_pos (by decide)] at H; exact H) | (simpa using H)
                clear H
                have H := H1
                clear H1
                simp only [Option.some.injEq, Prod.mk.injEq] at H
                obtain ⟨rfl, rfl⟩ := H
                go_wp2
                go_ret2
                exact ⟨by first | rfl | (simp; done) | (simp [*]; done), by repeat (first | exact Drawn0.refl _ | apply Drawn0.step)⟩
            ·
             rw [if_neg c21] at H
             have c21b0 : (a1 == 5) = false := beq_eq_false_iff_ne.mpr c21
             have c21b1 : (a1 != 5) = true := bne_iff_ne.mpr c21
             by_cases c25 : a1 = 6
             ·
              rw [if_pos c25] at H
              have c25b0 : (a1 == 6) = true := beq_iff_eq.mpr c25
              have c25b1 : (a1 != 6) = false := bne_eq_false_iff_eq.mpr c25
              clear c25
              by_cases c26 : x6_7 = true
              ·
               subst c26
               have H1 : (if 4 = 0 then (some (0, 17)) else (some (4, 0))) = some (r1, r2) := by rw [if_pos rfl] at H; exact H
               clear H
               have H := H1
               clear H1
               have H1 : (some (4, 0)) = some (r1, r2) := by first | exact H | (rw [if_neg (by decide)] at H; exact H) | (simpa using H)
               clear H
               have H := H1
               clear H1
               simp only [Option.some.injEq, Prod.mk.injEq] at H
               obtain ⟨rfl, rfl⟩ := H
               go_wp2
               go_ret2
               exact ⟨by first | rfl | (simp; done) | (simp [*]; done), by repeat (first | exact Drawn0.refl _ | apply Drawn0.step)⟩
              ·
               replace c26 := Bool.eq_false_iff.mpr c26
               subst c26
               have H1 : (if 0 = 0 then (some (0, 17)) else (some (0, 0))) = some (r1, r2) := by rw [if_neg (show ¬ (false = true) by decide)] at H; exact H
               clear H
               have H := H1
               clear H1
               have H1 : (some (0, 17)) = some (r1, r2) := by first | exact H | (rw [if_pos (by decide)] at H; exact H) | (simpa using H)
               clear H
               have H := H1
               clear H1
               simp only [Option.some.injEq, Prod.mk.injEq] at H
               obtain ⟨rfl, rfl⟩ := H
               go_wp2
               go_ret2
               exact ⟨by first | rfl | (simp; done) | (simp [*]; done), by repeat (first | exact Drawn0.refl _ | apply Drawn0.step)⟩
             ·
              rw [if_neg c25] at H
              have c25b0 : (a1 == 6) = false := beq_eq_false_iff_ne.mpr c25
              have c25b1 : (a1 != 6) = true := bne_iff_ne.mpr c25
              by_cases c27 : a1 = 7
              ·
               rw [if_pos c27] at H
               have c27b0 : (a1 == 7) = true := beq_iff_eq.mpr c27
               have c27b1 : (a1 != 7) = false := bne_eq_false_iff_eq.mpr c27
               clear c27
               by_cases c28 : x6_7 = true
               ·
                subst c28
                have H1 : (if 5 = 0 then (some (0, 17)) else (some (5, 0))) = some (r1, r2) := by rw [if_pos rfl] at H; exact H
                clear H
                have H := H1
                clear H1
                have H1 : (some (5, 0)) = some (r1, r2) := by first | exact H | (rw [if_neg (by decide)] at H; exact H) | (simpa using H)
                clear H
                have H := H1
                clear H1
                simp only [Option.some.injEq, Prod.mk.injEq] at H
                obtain ⟨rfl, rfl⟩ := H
                go_wp2
                go_ret2
                exact ⟨by first | rfl | (simp; done) | (simp [*]; done), by repeat (first | exact Drawn0.refl _ | apply Drawn0.step)⟩
               ·
                replace c28 := Bool.eq_false_iff.mpr c28
                subst c28
                have H1 : (if 0 = 0 then (some (0, 17)) else (some (0, 0))) = some (r1, r2) := by rw [if_neg (show ¬ (false = true) by decide)] at H; exact H
                clear H
                have H := H1
                clear H1
                have H1 : (some (0, 17)) = some (r1, r2) := by first | exact H | (rw [if_pos (by decide)] at H; exact H) | (simpa using H)
                clear H
                have H := H1
                clear H1
                simp only [Option.some.injEq, Prod.mk.injEq] at H
                obtain ⟨rfl, rfl⟩ := H
                go_wp2
                go_ret2
                exact ⟨by first | rfl | (simp; done) | (simp [*]; done), by repeat (first | exact Drawn0.refl _ | apply Drawn0.step)⟩
              ·
               rw [if_neg c27] at H
               have c27b0 : (a1 == 7) = false := beq_eq_false_iff_ne.mpr c27
               have c27b1 : (a1 != 7) = true := bne_iff_ne.mpr c27
               by_cases c29 : a1 = 8
               ·
                rw [if_pos c29] at H
                have c29b0 : (a1 == 8) = true := beq_iff_eq.mpr c29
                have c29b1 : (a1 != 8) = false := bne_eq_false_iff_eq.mpr c29
                clear c29
                by_cases c30 : x7_9 = true
                ·
                 subst c30
                 have H1 : (if 6 = 0 then (some (0, 17)) else (some (6, 0))) = some (r1, r2) := by rw [if_pos rfl] at H; exact H
                 clear H
                 have H := H1
                 clear H1
                 have H1 : (some (6, 0)) = some (r1, r2) := by first | exact H | (rw [if_neg (by decide)] at H; exact H) | (simpa using H)
                 clear H
                 have H := H1
                 clear H1
                 simp only [Option.some.injEq, Prod.mk.injEq] at H
                 obtain ⟨rfl, rfl⟩ := H
                 go_wp2
                 go_ret2
                 exact ⟨by first | rfl | (simp; done) | (simp [*]; done), by repeat (first | exact Drawn0.refl _ | apply Drawn0.step)⟩
                ·
                 replace c30 := Bool.eq_false_iff.mpr c30
                 subst c30
                 have H1 : (if 0 = 0 then (some (0, 17)) else (some (0, 0))) = some (r1, r2) := by rw [if_neg (show ¬ (false = true) by decide)] at H; exact H
                 clear H
                 have H := H1
                 clear H1
                 have H1 : (some (0, 17)) = some (r1, r2) := by first | exact H | (rw [if_pos (by decide)] at H; exact H) | (simpa using H)
                 clear H
                 have H := H1
                 clear H1
                 simp only [Option.some.injEq, Prod.mk.injEq] at H
                 obtain ⟨rfl, rfl⟩ := H
                 go_wp2
                 go_ret2
                 exact ⟨by first | rfl | (simp; done) | (simp [*]; done), by repeat (first | exact Drawn0.refl _ | apply Drawn0.step)⟩
               ·
                rw [if_neg c29] at H
                have c29b0 : (a1 == 8) = false := beq_eq_false_iff_ne.mpr c29
                have c29b1 : (a1 != 8) = true := bne_iff_ne.mpr c29
                by_cases c31 : a1 = 9
                ·
                 rw [if_pos c31] at H
                 have c31b0 : (a1 == 9) = true := beq_iff_eq.mpr c31
                 have c31b1 : (a1 != 9) = false := bne_eq_false_iff_eq.mpr c31
                 clear c31
                 by_cases c32 : a0 = 6
                 ·
                  rw [if_pos c32] at H
                  have c32b0 : (a0 == 6) = true := beq_iff_eq.mpr c32
                  have c32b1 : (a0 != 6) = false := bne_eq_false_iff_eq.mpr c32
                  clear c32
                  have H1 : (some (7, 0)) = some (r1, r2) := by first | exact H | (rw [if_neg (by decide)] at H; exact H) | (simpa using H)
                  clear H
                  have H := H1
                  clear H1
                  simp only [Option.some.injEq, Prod.mk.injEq] at H
                  obtain ⟨rfl, rfl⟩ := H
                  go_wp2
                  go_ret2
                  exact ⟨by first | rfl | (simp; done) | (simp [*]; done), by repeat (first | exact Drawn0.refl _ | apply Drawn0.step)⟩
                 ·
                  rw [if_neg c32] at H
                  have c32b0 : (a0 == 6) = false := beq_eq_false_iff_ne.mpr c32
                  have c32b1 : (a0 != 6) = true := bne_iff_ne.mpr c32
                  have H1 : (some (0, 17)) = some (r1, r2) := by first | exact H | (rw [if_pos (by decide)] at H; exact H) | (simpa using H)
                  clear H
                  have H := H1
                  clear H1
                  simp only [Option.some.injEq, Prod.mk.injEq] at H
                  obtain ⟨rfl, rfl⟩ := H
                  go_wp2
                  go_ret2
                  exact ⟨by first | rfl | (simp; done) | (simp [*]; done), by repeat (first | exact Drawn0.refl _ | apply Drawn0.step)⟩
                ·
                 rw [if_neg c31] at H
                 have c31b0 : (a1 == 9) = false := beq_eq_false_iff_ne.mpr c31
                 have c31b1 : (a1 != 9) = true := bne_iff_ne.mpr c31
                 by_cases c33 : a1 = 10
                 ·
                  rw [if_pos c33] at H
                  have c33b0 : (a1 == 10) = true := beq_iff_eq.mpr c33
                  have c33b1 : (a1 != 10) = false := bne_eq_false_iff_eq.mpr c33
                  clear c33
                  by_cases c34 : a0 = 7
                  ·
                   rw [if_pos c34] at H
                   have c34b0 : (a0 == 7) = true := beq_iff_eq.mpr c34
                   have c34b1 : (a0 != 7) = false := bne_eq_false_iff_eq.mpr c34
                   clear c34
                   have H1 : (some (6, 0)) = some (r1, r2) := by first | exact H | (rw [if_neg (by decide)] at H; exact H) | (simpa using H)
                   clear H
                   have H := H1
                   clear H1
                   simp only [Option.some.injEq, Prod.mk.injEq] at H
                   obtain ⟨rfl, rfl⟩ := H
                   go_wp2
                   go_ret2
                   exact ⟨by first | rfl | (simp; done) | (simp [*]; done), by repeat (first | exact Drawn0.refl _ | apply Drawn0.step)⟩
                  ·
                   rw [if_neg c34] at H
                   have c34b0 : (a0 == 7) = false := beq_eq_false_iff_ne.mpr c34
                   have c34b1 : (a0 != 7) = true := bne_iff_ne.mpr c34
                   have H1 : (some (0, 17)) = some (r1, r2) := by first | exact H | (rw [if_pos (by decide)] at H; exact H) | (simpa using H)
                   clear H
                   have H := H1
                   clear H1
                   simp only [Option.some.injEq, Prod.mk.injEq] at H
                   obtain ⟨rfl, rfl⟩ := H
                   go_wp2
                   go_ret2
                   exact ⟨by first | rfl | (simp; done) | (simp [*]; done), by repeat (first | exact Drawn0.refl _ | apply Drawn0.step)⟩
                 ·
                  rw [if_neg c33] at H
                  have c33b0 : (a1 == 10) = false := beq_eq_false_iff_ne.mpr c33
                  have c33b1 : (a1 != 10) = true := bne_iff_ne.mpr c33
                  by_cases c35 : a1 = 11
                  ·
                   rw [if_pos c35] at H
                   have c35b0 : (a1 == 11) = true := beq_iff_eq.mpr c35
                   have c35b1 : (a1 != 11) = false := bne_eq_false_iff_eq.mpr c35
                   clear c35
                   have HC36 := Aside0.mk H
                   clear H
                   go_upto_if 80 with (fail)
                   go_cut [8] (fun v8 wc => ∃ (kq : Nat) (x8_35 : Int), v8 = .int .i64 x8_35 ∧ Aside0 (customsref24_Next.j4 kq a0 x8_35 = some (r1, r2)) ∧ Aside0 (kq ≤ kj9) ∧ Drawn0 w wc)
                   case first =>
                    have H := HC36.out
                    clear HC36
                    by_cases c37 : x7_9 = true
                    ·
                     subst c37
                     have H1 : (customsref24_Next.j4 kj9 a0 8) = some (r1, r2) := by rw [if_pos rfl] at H; exact H
                     clear H
                     have H := H1
                     clear H1
                     have H' := Aside0.mk H
                     clear H
                     go_wp2
                     go_meet
                     case rel => exact ⟨_, (8), (by first | rfl | (simp; done) | (simp [*]; done)), H', ⟨by have := HJ2.out; have := HJ7.out; have := HJ9.out; first | omega | exact Nat.le_refl _⟩, by repeat (first | exact Drawn0.refl _ | apply Drawn0.step)⟩
                    ·
                     replace c37 := Bool.eq_false_iff.mpr c37
                     subst c37
                     have H1 : (customsref24_Next.j4 kj9 a0 0) = some (r1, r2) := by rw [if_neg (show ¬ (false = true) by decide)] at H; exact H
                     clear H
                     have H := H1
                     clear H1
                     have H' := Aside0.mk H
                     clear H
                     go_wp2
                     go_meet
                     case rel => exact ⟨_, (0), (by first | rfl | (simp; done) | (simp [*]; done)), H', ⟨by have := HJ2.out; have := HJ7.out; have := HJ9.out; first | omega | exact Nat.le_refl _⟩, by repeat (first | exact Drawn0.refl _ | apply Drawn0.step)⟩
                   case rest =>
                    clear HC36
                    try clear c1
                    try clear c2
                    try clear p2
                    try clear c3
                    try clear c4
                    try clear c4b0
                    try clear c5
                    try clear c5b0
                    try clear c6
                    try clear c6b0
                    try clear c7
                    try clear c9
                    try clear c9b0
                    try clear c9b1
                    try clear c11
                    try clear c12
                    try clear c12b0
                    try clear c12b1
                    try clear c13
                    try clear c13b0
                    try clear c13b1
                    try clear c14
                    try clear c14b0
                    try clear c14b1
                    try clear c15
                    try clear c15b0
                    try clear c15b1
                    try clear c16
                    try clear c17
                    try clear c17b0
                    try clear c17b1
                    try clear c18
                    try clear c18b0
                    try clear c18b1
                    try clear c19
                    try clear c19b0
                    try clear c19b1
                    try clear c20
                    try clear c20b0
                    try clear c20b1
                    try clear c21
                    try clear c21b0
                    try clear c21b1
                    try clear c23
                    try clear c24
                    try clear c25
                    try clear c25b0
                    try clear c25b1
                    try clear c26
                    try clear c27
                    try clear c27b0
                    try clear c27b1
                    try clear c28
                    try clear c29
                    try clear c29b0
                    try clear c29b1
                    try clear c30
                    try clear c31
                    try clear c31b0
                    try clear c31b1
                    try clear c32
                    try clear c32b0
                    try clear c32b1
                    try clear c33
                    try clear c33b0
                    try clear c33b1
                    try clear c34
                    try clear c34b0
                    try clear c34b1
                    try clear c35
                    try clear c35b0
                    try clear c35b1
                    try clear c37
                    try clear p2
                    obtain ⟨kq, x8_35, rfl, HA, HJ35, ⟨mc35, rfl⟩⟩ := hcut
                    cases kq with
                    | zero => exact absurd HA.out (by simp [customsref24_Next.j4])
                    | succ kj35 =>
                     have H := HA.out
                     clear HA
                     simp only [customsref24_Next.j4] at H
                     by_cases c38 : a0 = 6
                     ·
                      rw [if_pos c38] at H
                      have c38b0 : (a0 == 6) = true := beq_iff_eq.mpr c38
                      have c38b1 : (a0 != 6) = false := bne_eq_false_iff_eq.mpr c38
                      clear c38
                      have H1 : (some (9, 0)) = some (r1, r2) := by first | exact H | (rw [if_neg (by decide)] at H; exact H) | (simpa using H)
                      clear H
                      have H := H1
                      clear H1
                      simp only [Option.some.injEq, Prod.mk.injEq] at H
                      obtain ⟨rfl, rfl⟩ := H
                      go_wp2
                      go_ret2
                      exact ⟨by first | rfl | (simp; done) | (simp [*]; done), by repeat (first | exact Drawn0.refl _ | apply Drawn0.step)⟩
                     ·
                      rw [if_neg c38] at H
                      have c38b0 : (a0 == 6) = false := beq_eq_false_iff_ne.mpr c38
                      have c38b1 : (a0 != 6) = true := bne_iff_ne.mpr c38
                      by_cases c39 : x8_35 = 0
                      ·
                       rw [if_pos c39] at H
                       have c39b0 : (x8_35 == 0) = true := beq_iff_eq.mpr c39
                       have c39b1 : (x8_35 != 0) = false := bne_eq_false_iff_eq.mpr c39
                       clear c39
                       simp only [Option.some.injEq, Prod.mk.injEq] at H
                       obtain ⟨rfl, rfl⟩ := H
                       go_wp2
                       go_ret2
                       exact ⟨by first | rfl | (simp; done) | (simp [*]; done), by repeat (first | exact Drawn0.refl _ | apply Drawn0.step)⟩
                      ·
                       rw [if_neg c39] at H
                       have c39b0 : (x8_35 == 0) = false := beq_eq_false_iff_ne.mpr c39
                       have c39b1 : (x8_35 != 0) = true := bne_iff_ne.mpr c39
                       simp only [Option.some.injEq, Prod.mk.injEq] at H
                       obtain ⟨rfl, rfl⟩ := H
                       go_wp2
                       go_ret2
                       exact ⟨by first | rfl | (simp; done) | (simp [*]; done), by repeat (first | exact Drawn0.refl _ | apply Drawn0.step)⟩
                  ·
                   rw [if_neg c35] at H
                   have c35b0 : (a1 == 11) = false := beq_eq_false_iff_ne.mpr c35
                   have c35b1 : (a1 != 11) = true := bne_iff_ne.mpr c35
                   by_cases c40 : a1 = 12
                   ·
                    rw [if_pos c40] at H
                    have c40b0 : (a1 == 12) = true := beq_iff_eq.mpr c40
                    have c40b1 : (a1 != 12) = false := bne_eq_false_iff_eq.mpr c40
                    clear c40
                    by_cases c41 : x7_9 = true
                    ·
                     subst c41
                     have H1 : (if 10 = 0 then (some (0, 17)) else (some (10, 0))) = some (r1, r2) := by rw [if_pos rfl] at H; exact H
                     clear H
                     have H := H1
                     clear H1
                     have H1 : (some (10, 0)) = some (r1, r2) := by first | exact H | (rw [if_neg (by decide)] at H; exact H) | (simpa using H)
                     clear H
                     have H := H1
                     clear H1
                     simp only [Option.some.injEq, Prod.mk.injEq] at H
                     obtain ⟨rfl, rfl⟩ := H
                     go_wp2
                     go_ret2
                     exact ⟨by first | rfl | (simp; done) | (simp [*]; done), by repeat (first | exact Drawn0.refl _ | apply Drawn0.step)⟩
                    ·
                     replace c41 := Bool.eq_false_iff.mpr c41
                     subst c41
                     have H1 : (if 0 = 0 then (some (0, 17)) else (some (0, 0))) = some (r1, r2) := by rw [if_neg (show ¬ (false = true) by decide)] at H; exact H
                     clear H
                     have H := H1
                     clear H1
                     have H1 : (some (0, 17)) = some (r1, r2) := by first | exact H | (rw [if_pos (by decide)] at H; exact H) | (simpa using H)
                     clear H
                     have H := H1
                     clear H1
                     simp only [Option.some.injEq, Prod.mk.injEq] at H
                     obtain ⟨rfl, rfl⟩ := H
                     go_wp2
                     go_ret2
                     exact ⟨by first | rfl | (simp; done) | (simp [*]; done), by repeat (first | exact Drawn0.refl _ | apply Drawn0.step)⟩
                   ·
                    rw [if_neg c40] at H
                    have c40b0 : (a1 == 12) = false := beq_eq_false_iff_ne.mpr c40
                    have c40b1 : (a1 != 12) = true := bne_iff_ne.mpr c40
                    by_cases c42 : a1 = 13
                    ·
                     rw [if_pos c42] at H
                     have c42b0 : (a1 == 13) = true := beq_iff_eq.mpr c42
                     have c42b1 : (a1 != 13) = false := bne_eq_false_iff_eq.mpr c42
                     clear c42
                     by_cases c43 : x6_7 = true
                     ·
                      subst c43
                      have H1 : (if 11 = 0 then (some (0, 17)) else (some (11, 0))) = some (r1, r2) := by rw [if_pos rfl] at H; exact H
                      clear H
                      have H := H1
                      clear H1
                      have H1 : (some (11, 0)) = some (r1, r2) := by first | exact H | (rw [if_neg (by decide)] at H; exact H) | (simpa using H)
                      clear H
                      have H := H1
                      clear H1
                      simp only [Option.some.injEq, Prod.mk.injEq] at H
                      obtain ⟨rfl, rfl⟩ := H
                      go_wp2
                      go_ret2
                      exact ⟨by first | rfl | (simp; done) | (simp [*]; done), by repeat (first | exact Drawn0.refl _ | apply Drawn0.step)⟩
                     ·
                      replace c43 := Bool.eq_false_iff.mpr c43
                      subst c43
                      have H1 : (if 0 = 0 then (some (0, 17)) else (some (0, 0))) = some (r1, r2) := by rw [if_neg (show ¬ (false = true) by decide)] at H; exact H
                      clear H
                      have H := H1
                      clear H1
                      have H1 : (some (0, 17)) = some (r1, r2) := by first | exact H | (rw [if_pos (by decide)] at H; exact H) | (simpa using H)
                      clear H
                      have H := H1
                      clear H1
                      simp only [Option.some.injEq, Prod.mk.injEq] at H
                      obtain ⟨rfl, rfl⟩ := H
                      go_wp2
                      go_ret2
                      exact ⟨by first | rfl | (simp; done) | (simp [*]; done), by repeat (first | exact Drawn0.refl _ | apply Drawn0.step)⟩
                    ·
                     rw [if_neg c42] at H
                     have c42b0 : (a1 == 13) = false := beq_eq_false_iff_ne.mpr c42
                     have c42b1 : (a1 != 13) = true := bne_iff_ne.mpr c42
                     by_cases c44 : a1 = 14
                     ·
                      rw [if_pos c44] at H
                      have c44b0 : (a1 == 14) = true := beq_iff_eq.mpr c44
                      have c44b1 : (a1 != 14) = false := bne_eq_false_iff_eq.mpr c44
                      clear c44
                      have HC45 := Aside0.mk H
                      clear H
                      go_upto_region 49 with (fail)
                      go_cut [95] (fun v95 wc => ∃ (kq : Nat) (x95_44 : Bool), v95 = .bool x95_44 ∧ Aside0 (customsref24_Next.j5 kq 0 x95_44 = some (r1, r2)) ∧ Aside0 (kq ≤ kj9) ∧ Drawn0 w wc)
                      case first =>
                       have H := HC45.out
                       clear HC45
                       by_cases c46 : x7_9 = true
                       ·
                        subst c46
                        have H1 : (customsref24_Next.j5 kj9 0 true) = some (r1, r2) := by rw [if_pos rfl] at H; exact H
                        clear H
                        have H := H1
                        clear H1
                        have H' := Aside0.mk H
                        clear H
                        go_wp2
                        go_meet
                        case rel => exact ⟨_, (true), (by first | rfl | (simp; done) | (simp [*]; done)), H', ⟨by have := HJ2.out; have := HJ7.out; have := HJ9.out; first | omega | exact Nat.le_refl _⟩, by repeat (first | exact Drawn0.refl _ | apply Drawn0.step)⟩
                       ·
                        replace c46 := Bool.eq_false_iff.mpr c46
                        subst c46
                        have H1 : (customsref24_Next.j5 kj9 0 (a0 == 2)) = some (r1, r2) := by rw [if_neg (show ¬ (false = true) by decide)] at H; exact H
                        clear H
                        have H := H1
                        clear H1
                        have H' := Aside0.mk H
                        clear H
                        go_wp2
                        go_meet
                        case rel => exact ⟨_, ((a0 == 2)), (by first | rfl | (simp; done) | (simp [*]; done)), H', ⟨by have := HJ2.out; have := HJ7.out; have := HJ9.out; first | omega | exact Nat.le_refl _⟩, by repeat (first | exact Drawn0.refl _ | apply Drawn0.step)⟩
                      case rest =>
                       clear HC45
                       try clear c1
                       try clear c2
                       try clear p2
                       try clear c3
                       try clear c4
                       try clear c4b0
                       try clear c5
                       try clear c5b0
                       try clear c6
                       try clear c6b0
                       try clear c7
                       try clear c9
                       try clear c9b0
                       try clear c9b1
                       try clear c11
                       try clear c12
                       try clear c12b0
                       try clear c12b1
                       try clear c13
                       try clear c13b0
                       try clear c13b1
                       try clear c14
                       try clear c14b0
                       try clear c14b1
                       try clear c15
                       try clear c15b0
                       try clear c15b1
                       try clear c16
                       try clear c17
                       try clear c17b0
                       try clear c17b1
                       try clear c18
                       try clear c18b0
                       try clear c18b1
                       try clear c19
                       try clear c19b0
                       try clear c19b1
                       try clear c20
                       try clear c20b0
                       try clear c20b1
                       try clear c21
                       try clear c21b0
                       try clear c21b1
                       try clear c23
                       try clear c24
                       try clear c25
                       try clear c25b0
                       try clear c25b1
                       try clear c26
                       try clear c27
                       try clear c27b0
                       try clear c27b1
                       try clear c28
                       try clear c29
                       try clear c29b0
                       try clear c29b1
                       try clear c30
                       try clear c31
                       try clear c31b0
                       try clear c31b1
                       try clear c32
                       try clear c32b0
                       try clear c32b1
                       try clear c33
                       try clear c33b0
                       try clear c33b1
                       try clear c34
                       try clear c34b0
                       try clear c34b1
                       try clear c35
                       try clear c35b0
                       try clear c35b1
                       try clear c37
                       try clear c38
                       try clear c38b0
                       try clear c38b1
                       try clear c39
                       try clear c39b0
                       try clear c39b1
                       try clear c40
                       try clear c40b0
                       try clear c40b1
                       try clear c41
                       try clear c42
                       try clear c42b0
                       try clear c42b1
                       try clear c43
                       try clear c44
                       try clear c44b0
                       try clear c44b1
                       try clear c46
                       try clear p2
                       obtain ⟨kq, x95_44, rfl, HA, HJ44, ⟨mc44, rfl⟩⟩ := hcut
                       cases kq with
                       | zero => exact absurd HA.out (by simp [customsref24_Next.j5])
                       | succ kj44 =>
                        have H := HA.out
                        clear HA
                        simp only [customsref24_Next.j5] at H
                        by_cases c47 : x95_44 = true
                        ·
                         subst c47
                         have H1 : (if 12 = 0 then (some (0, 17)) else (some (12, 0))) = some (r1, r2) := by rw [if_pos rfl] at H; exact H
                         clear H
                         have H := H1
                         clear H1
                         have H1 : (some (12, 0)) = some (r1, r2) := by first | exact H | (rw [if_neg (by decide)] at H; exact H) | (simpa using H)
                         clear H
                         have H := H1
                         clear H1
                         simp only [Option.some.injEq, Prod.mk.injEq] at H
                         obtain ⟨rfl, rfl⟩ := H
                         go_wp2
                         go_ret2
                         exact ⟨by first | rfl | (simp; done) | (simp [*]; done), by repeat (first | exact Drawn0.refl _ | apply Drawn0.step)⟩
                        ·
                         replace c47 := Bool.eq_false_iff.mpr c47
                         subst c47
                         have H1 : (if 0 = 0 then (some (0, 17)) else (some (0, 0))) = some (r1, r2) := by rw [if_neg (show ¬ (false = true) by decide)] at H; exact H
                         clear H
                         have H := H1
                         clear H1
                         have H1 : (some (0, 17)) = some (r1, r2) := by first | exact H | (rw [if_pos (by decide)] at H; exact H) | (simpa using H)
                         clear H
                         have H := H1
                         clear H1
                         simp only [Option.some.injEq, Prod.mk.injEq] at H
                         obtain ⟨rfl, rfl⟩ := H
                         go_wp2
                         go_ret2
                         exact ⟨by first | rfl | (simp; done) | (simp [*]; done), by repeat (first | exact Drawn0.refl _ | apply Drawn0.step)⟩
                     ·
                      rw [if_neg c44] at H
                      have c44b0 : (a1 == 14) = false := beq_eq_false_iff_ne.mpr c44
                      have c44b1 : (a1 != 14) = true := bne_iff_ne.mpr c44
                      have H1 : (some (0, 17)) = some (r1, r2) := by first | exact H | (rw [if_pos (by decide)] at H; exact H) | (simpa using H)
                      clear H
                      have H := H1
                      clear H1
                      simp only [Option.some.injEq, Prod.mk.injEq] at H
                      obtain ⟨rfl, rfl⟩ := H
                      go_wp2
                      go_ret2
                      exact ⟨by first | rfl | (simp; done) | (simp [*]; done), by repeat (first | exact Drawn0.refl _ | apply Drawn0.step)⟩

mutual
def customsref24_Class.j0 : Nat → Int → Bool → Option (Int)
 | 0, _, _ => none
 | k + 1, x3, x4 => if x4 = true then (some 1) else (if x3 = 6 then (customsref24_Class.j1 k x3 (x3 == 6)) else (if x3 = 7 then (customsref24_Class.j1 k x3 (x3 == 7)) else (if x3 = 9 then (customsref24_Class.j1 k x3 (x3 == 9)) else (customsref24_Class.j1 k x3 (x3 == 12)))))
def customsref24_Class.j1 : Nat → Int → Bool → Option (Int)
 | 0, _, _ => none
 | k + 1, x3, x10 => if x10 = true then (some 2) else (if x3 = 8 then (customsref24_Class.j2 k x3 (x3 == 8)) else (if x3 = 10 then (customsref24_Class.j2 k x3 (x3 == 10)) else (customsref24_Class.j2 k x3 (x3 == 11))))
def customsref24_Class.j2 : Nat → Int → Bool → Option (Int)
 | 0, _, _ => none
 | k + 1, x3, x15 => if x15 = true then (some 3) else (if x3 = 13 then (some 4) else (some 0))
end
def customsref24_Class.f (k : Nat) (a0 : Int) : Option (Int) := if a0 = 1 then (customsref24_Class.j0 k a0 (a0 == 1)) else (if a0 = 2 then (customsref24_Class.j0 k a0 (a0 == 2)) else (if a0 = 3 then (customsref24_Class.j0 k a0 (a0 == 3)) else (if a0 = 4 then (customsref24_Class.j0 k a0 (a0 == 4)) else (customsref24_Class.j0 k a0 (a0 == 5)))))
theorem customsref24_Class.mono_l : ∀ k, (∀ y0 y1, LeO (customsref24_Class.j0 k y0 y1) (customsref24_Class.j0 (k + 1) y0 y1)) ∧ (∀ y0 y1, LeO (customsref24_Class.j1 k y0 y1) (customsref24_Class.j1 (k + 1) y0 y1)) ∧ (∀ y0 y1, LeO (customsref24_Class.j2 k y0 y1) (customsref24_Class.j2 (k + 1) y0 y1))
 | 0 => ⟨fun _ _ r h => by simp [customsref24_Class.j0] at h, fun _ _ r h => by simp [customsref24_Class.j1] at h, fun _ _ r h => by simp [customsref24_Class.j2] at h⟩
 | k + 1 => by
  obtain ⟨ih0, ih1, ih2⟩ := customsref24_Class.mono_l k
  refine ⟨?_, ?_, ?_⟩
  ·
   intro y0 y1
   unfold customsref24_Class.j0
   repeat' first
   | (with_reducible exact ih0 _ _)
   | (with_reducible exact ih1 _ _)
   | (with_reducible exact ih2 _ _)
   | (with_reducible exact LeO.refl _)
   | (with_reducible exact LeO.none _)
   | (with_reducible refine LeO.ite ?_ ?_)
   | (with_reducible refine LeO.bind ?_ (fun _ => ?_))
   | exact ih0 _ _
   | exact ih1 _ _
   | exact ih2 _ _
   | exact LeO.none _
   | refine LeO.ite ?_ ?_
   | refine LeO.bind ?_ (fun _ => ?_)
  ·
   intro y0 y1
   unfold customsref24_Class.j1
   repeat' first
   | (with_reducible exact ih0 _ _)
   | (with_reducible exact ih1 _ _)
   | (with_reducible exact ih2 _ _)
   | (with_reducible exact LeO.refl _)
   | (with_reducible exact LeO.none _)
   | (with_reducible refine LeO.ite ?_ ?_)
   | (with_reducible refine LeO.bind ?_ (fun _ => ?_))
   | exact ih0 _ _
   | exact ih1 _ _
   | exact ih2 _ _
   | exact LeO.none _
   | refine LeO.ite ?_ ?_
   | refine LeO.bind ?_ (fun _ => ?_)
  ·
   intro y0 y1
   unfold customsref24_Class.j2
   repeat' first
   | (with_reducible exact ih0 _ _)
   | (with_reducible exact ih1 _ _)
   | (with_reducible exact ih2 _ _)
   | (with_reducible exact LeO.refl _)
   | (with_reducible exact LeO.none _)
   | (with_reducible refine LeO.ite ?_ ?_)
   | (with_reducible refine LeO.bind ?_ (fun _ => ?_))
   | exact ih0 _ _
   | exact ih1 _ _
   | exact ih2 _ _
   | exact LeO.none _
   | refine LeO.ite ?_ ?_
   | refine LeO.bind ?_ (fun _ => ?_)
theorem customsref24_Class.mono : ∀ a0 k, LeO (customsref24_Class.f k a0) (customsref24_Class.f (k + 1) a0) := by
 intro a0 k
 obtain ⟨ih0, ih1, ih2⟩ := customsref24_Class.mono_l k
 unfold customsref24_Class.f
 repeat' first
   | (with_reducible exact ih0 _ _)
   | (with_reducible exact ih1 _ _)
   | (with_reducible exact ih2 _ _)
   | (with_reducible exact LeO.refl _)
   | (with_reducible exact LeO.none _)
   | (with_reducible refine LeO.ite ?_ ?_)
   | (with_reducible refine LeO.bind ?_ (fun _ => ?_))
   | exact ih0 _ _
   | exact ih1 _ _
   | exact ih2 _ _
   | exact LeO.none _
   | refine LeO.ite ?_ ?_
   | refine LeO.bind ?_ (fun _ => ?_)
set_option maxHeartbeats 8000000 in
set_option maxRecDepth 100000 in
theorem customsref24_Class.calls (k : Nat) (a0 : Int) (r : Int) (w : World) (h : customsref24_Class.f k a0 = some r) :
  Calls Tryd.prog 13 #[.int .i64 a0] w fun e w' => e = .returned (.int .i64 r) ∧ Drawn0 w w' := by
 have H : (if a0 = 1 then (customsref24_Class.j0 k a0 (a0 == 1)) else (if a0 = 2 then (customsref24_Class.j0 k a0 (a0 == 2)) else (if a0 = 3 then (customsref24_Class.j0 k a0 (a0 == 3)) else (if a0 = 4 then (customsref24_Class.j0 k a0 (a0 == 4)) else (customsref24_Class.j0 k a0 (a0 == 5)))))) = some r := h
 clear h
 have HC2 := Aside0.mk H
 clear H
 go_enter Tryd.func13, Tryd.ntmps13
 go_upto_if 4 with (fail)
 go_cut [4] (fun v4 wc => ∃ (kq : Nat) (x4_1 : Bool), v4 = .bool x4_1 ∧ Aside0 (customsref24_Class.j0 kq a0 x4_1 = some r) ∧ Aside0 (kq ≤ k) ∧ Drawn0 w wc)
 case first =>
  have H := HC2.out
  clear HC2
  by_cases c3 : a0 = 1
  ·
   rw [if_pos c3] at H
   have c3b0 : (a0 == 1) = true := beq_iff_eq.mpr c3
   have c3b1 : (a0 != 1) = false := bne_eq_false_iff_eq.mpr c3
   clear c3
   (first | rw [c3b0] | (simp only [i64_w, i32_w]; rw [c3b0]) | skip)
   have H' := Aside0.mk H
   clear H
   go_wp2
   go_meet
   case rel => exact ⟨_, ((a0 == 1)), (by first | rfl | (simp; done) | (simp [*]; done)), H', ⟨by first | omega | exact Nat.le_refl _⟩, by repeat (first | exact Drawn0.refl _ | apply Drawn0.step)⟩
  ·
   rw [if_neg c3] at H
   have c3b0 : (a0 == 1) = false := beq_eq_false_iff_ne.mpr c3
   have c3b1 : (a0 != 1) = true := bne_iff_ne.mpr c3
   (first | rw [c3b0] | (simp only [i64_w, i32_w]; rw [c3b0]) | skip)
   by_cases c4 : a0 = 2
   ·
    rw [if_pos c4] at H
    have c4b0 : (a0 == 2) = true := beq_iff_eq.mpr c4
    have c4b1 : (a0 != 2) = false := bne_eq_false_iff_eq.mpr c4
    clear c4
    have H' := Aside0.mk H
    clear H
    go_wp2
    go_meet
    case rel => exact ⟨_, ((a0 == 2)), (by first | rfl | (simp; done) | (simp [*]; done)), H', ⟨by first | omega | exact Nat.le_refl _⟩, by repeat (first | exact Drawn0.refl _ | apply Drawn0.step)⟩
   ·
    rw [if_neg c4] at H
    have c4b0 : (a0 == 2) = false := beq_eq_false_iff_ne.mpr c4
    have c4b1 : (a0 != 2) = true := bne_iff_ne.mpr c4
    by_cases c5 : a0 = 3
    ·
     rw [if_pos c5] at H
     have c5b0 : (a0 == 3) = true := beq_iff_eq.mpr c5
     have c5b1 : (a0 != 3) = false := bne_eq_false_iff_eq.mpr c5
     clear c5
     have H' := Aside0.mk H
     clear H
     go_wp2
     go_meet
     case rel => exact ⟨_, ((a0 == 3)), (by first | rfl | (simp; done) | (simp [*]; done)), H', ⟨by first | omega | exact Nat.le_refl _⟩, by repeat (first | exact Drawn0.refl _ | apply Drawn0.step)⟩
    ·
     rw [if_neg c5] at H
     have c5b0 : (a0 == 3) = false := beq_eq_false_iff_ne.mpr c5
     have c5b1 : (a0 != 3) = true := bne_iff_ne.mpr c5
     by_cases c6 : a0 = 4
     ·
      rw [if_pos c6] at H
      have c6b0 : (a0 == 4) = true := beq_iff_eq.mpr c6
      have c6b1 : (a0 != 4) = false := bne_eq_false_iff_eq.mpr c6
      clear c6
      have H' := Aside0.mk H
      clear H
      go_wp2
      go_meet
      case rel => exact ⟨_, ((a0 == 4)), (by first | rfl | (simp; done) | (simp [*]; done)), H', ⟨by first | omega | exact Nat.le_refl _⟩, by repeat (first | exact Drawn0.refl _ | apply Drawn0.step)⟩
     ·
      rw [if_neg c6] at H
      have c6b0 : (a0 == 4) = false := beq_eq_false_iff_ne.mpr c6
      have c6b1 : (a0 != 4) = true := bne_iff_ne.mpr c6
      have H' := Aside0.mk H
      clear H
      go_wp2
      go_meet
      case rel => exact ⟨_, ((a0 == 5)), (by first | rfl | (simp; done) | (simp [*]; done)), H', ⟨by first | omega | exact Nat.le_refl _⟩, by repeat (first | exact Drawn0.refl _ | apply Drawn0.step)⟩
 case rest =>
  clear HC2
  try clear c1
  try clear p2
  try clear c3
  try clear c3b0
  try clear c3b1
  try clear c4
  try clear c4b0
  try clear c4b1
  try clear c5
  try clear c5b0
  try clear c5b1
  try clear c6
  try clear c6b0
  try clear c6b1
  obtain ⟨kq, x4_1, rfl, HA, HJ1, ⟨mc1, rfl⟩⟩ := hcut
  cases kq with
  | zero => exact absurd HA.out (by simp [customsref24_Class.j0])
  | succ kj1 =>
   have H := HA.out
   clear HA
   simp only [customsref24_Class.j0] at H
   by_cases c7 : x4_1 = true
   ·
    subst c7
    have H1 : (some 1) = some r := by rw [if_pos rfl] at H; exact H
    clear H
    have H := H1
    clear H1
    obtain rfl := Option.some.inj H
    go_wp2
    go_ret
    exact ⟨by first | rfl | (simp; done) | (simp [*]; done), by repeat (first | exact Drawn0.refl _ | apply Drawn0.step)⟩
   ·
    replace c7 := Bool.eq_false_iff.mpr c7
    subst c7
    have H1 : (if a0 = 6 then (customsref24_Class.j1 kj1 a0 (a0 == 6)) else (if a0 = 7 then (customsref24_Class.j1 kj1 a0 (a0 == 7)) else (if a0 = 9 then (customsref24_Class.j1 kj1 a0 (a0 == 9)) else (customsref24_Class.j1 kj1 a0 (a0 == 12))))) = some r := by rw [if_neg (show ¬ (false = true) by decide)] at H; exact H
    clear H
    have H := H1
    clear H1
    have HC8 := Aside0.mk H
    clear H
    go_upto_if 10 with (fail)
    go_cut [10] (fun v10 wc => ∃ (kq : Nat) (x10_7 : Bool), v10 = .bool x10_7 ∧ Aside0 (customsref24_Class.j1 kq a0 x10_7 = some r) ∧ Aside0 (kq ≤ kj1) ∧ Drawn0 w wc)
    case first =>
     have H := HC8.out
     clear HC8
     by_cases c9 : a0 = 6
     ·
      rw [if_pos c9] at H
      have c9b0 : (a0 == 6) = true := beq_iff_eq.mpr c9
      have c9b1 : (a0 != 6) = false := bne_eq_false_iff_eq.mpr c9
      clear c9
      (first | rw [c9b0] | (simp only [i64_w, i32_w]; rw [c9b0]) | skip)
      have H' := Aside0.mk H
      clear H
      go_wp2
      go_meet
      case rel => exact ⟨_, ((a0 == 6)), (by first | rfl | (simp; done) | (simp [*]; done)), H', ⟨by have := HJ1.out; first | omega | exact Nat.le_refl _⟩, by repeat (first | exact Drawn0.refl _ | apply Drawn0.step)⟩
     ·
      rw [if_neg c9] at H
      have c9b0 : (a0 == 6) = false := beq_eq_false_iff_ne.mpr c9
      have c9b1 : (a0 != 6) = true := bne_iff_ne.mpr c9
      (first | rw [c9b0] | (simp only [i64_w, i32_w]; rw [c9b0]) | skip)
      by_cases c10 : a0 = 7
      ·
       rw [if_pos c10] at H
       have c10b0 : (a0 == 7) = true := beq_iff_eq.mpr c10
       have c10b1 : (a0 != 7) = false := bne_eq_false_iff_eq.mpr c10
       clear c10
       have H' := Aside0.mk H
       clear H
       go_wp2
       go_meet
       case rel => exact ⟨_, ((a0 == 7)), (by first | rfl | (simp; done) | (simp [*]; done)), H', ⟨by have := HJ1.out; first | omega | exact Nat.le_refl _⟩, by repeat (first | exact Drawn0.refl _ | apply Drawn0.step)⟩
      ·
       rw [if_neg c10] at H
       have c10b0 : (a0 == 7) = false := beq_eq_false_iff_ne.mpr c10
       have c10b1 : (a0 != 7) = true := bne_iff_ne.mpr c10
       by_cases c11 : a0 = 9
       ·
        rw [if_pos c11] at H
        have c11b0 : (a0 == 9) = true := beq_iff_eq.mpr c11
        have c11b1 : (a0 != 9) = false := bne_eq_false_iff_eq.mpr c11
        clear c11
        have H' := Aside0.mk H
        clear H
        go_wp2
        go_meet
        case rel => exact ⟨_, ((a0 == 9)), (by first | rfl | (simp; done) | (simp [*]; done)), H', ⟨by have := HJ1.out; first | omega | exact Nat.le_refl _⟩, by repeat (first | exact Drawn0.refl _ | apply Drawn0.step)⟩
       ·
        rw [if_neg c11] at H
        have c11b0 : (a0 == 9) = false := beq_eq_false_iff_ne.mpr c11
        have c11b1 : (a0 != 9) = true := bne_iff_ne.mpr c11
        have H' := Aside0.mk H
        clear H
        go_wp2
        go_meet
        case rel => exact ⟨_, ((a0 == 12)), (by first | rfl | (simp; done) | (simp [*]; done)), H', ⟨by have := HJ1.out; first | omega | exact Nat.le_refl _⟩, by repeat (first | exact Drawn0.refl _ | apply Drawn0.step)⟩
    case rest =>
     clear HC8
     try clear c1
     try clear p2
     try clear c3
     try clear c3b0
     try clear c3b1
     try clear c4
     try clear c4b0
     try clear c4b1
     try clear c5
     try clear c5b0
     try clear c5b1
     try clear c6
     try clear c6b0
     try clear c6b1
     try clear c7
     try clear c9
     try clear c9b0
     try clear c9b1
     try clear c10
     try clear c10b0
     try clear c10b1
     try clear c11
     try clear c11b0
     try clear c11b1
     try clear p2
     obtain ⟨kq, x10_7, rfl, HA, HJ7, ⟨mc7, rfl⟩⟩ := hcut
     cases kq with
     | zero => exact absurd HA.out (by simp [customsref24_Class.j1])
     | succ kj7 =>
      have H := HA.out
      clear HA
      simp only [customsref24_Class.j1] at H
      by_cases c12 : x10_7 = true
      ·
       subst c12
       have H1 : (some 2) = some r := by rw [if_pos rfl] at H; exact H
       clear H
       have H := H1
       clear H1
       obtain rfl := Option.some.inj H
       go_wp2
       go_ret
       exact ⟨by first | rfl | (simp; done) | (simp [*]; done), by repeat (first | exact Drawn0.refl _ | apply Drawn0.step)⟩
      ·
       replace c12 := Bool.eq_false_iff.mpr c12
       subst c12
       have H1 : (if a0 = 8 then (customsref24_Class.j2 kj7 a0 (a0 == 8)) else (if a0 = 10 then (customsref24_Class.j2 kj7 a0 (a0 == 10)) else (customsref24_Class.j2 kj7 a0 (a0 == 11)))) = some r := by rw [if_neg (show ¬ (false = true) by decide)] at H; exact H
       clear H
       have H := H1
       clear H1
       have HC13 := Aside0.mk H
       clear H
       go_upto_if 15 with (fail)
       go_cut [15] (fun v15 wc => ∃ (kq : Nat) (x15_12 : Bool), v15 = .bool x15_12 ∧ Aside0 (customsref24_Class.j2 kq a0 x15_12 = some r) ∧ Aside0 (kq ≤ kj7) ∧ Drawn0 w wc)
       case first =>
        have H := HC13.out
        clear HC13
        by_cases c14 : a0 = 8
        ·
         rw [if_pos c14] at H
         have c14b0 : (a0 == 8) = true := beq_iff_eq.mpr c14
         have c14b1 : (a0 != 8) = false := bne_eq_false_iff_eq.mpr c14
         clear c14
         (first | rw [c14b0] | (simp only [i64_w, i32_w]; rw [c14b0]) | skip)
         have H' := Aside0.mk H
         clear H
         go_wp2
         go_meet
         case rel => exact ⟨_, ((a0 == 8)), (by first | rfl | (simp; done) | (simp [*]; done)), H', ⟨by have := HJ1.out; have := HJ7.out; first | omega | exact Nat.le_refl _⟩, by repeat (first | exact Drawn0.refl _ | apply Drawn0.step)⟩
        ·
         rw [if_neg c14] at H
         have c14b0 : (a0 == 8) = false := beq_eq_false_iff_ne.mpr c14
         have c14b1 : (a0 != 8) = true := bne_iff_ne.mpr c14
         (first | rw [c14b0] | (simp only [i64_w, i32_w]; rw [c14b0]) | skip)
         by_cases c15 : a0 = 10
         ·
          rw [if_pos c15] at H
          have c15b0 : (a0 == 10) = true := beq_iff_eq.mpr c15
          have c15b1 : (a0 != 10) = false := bne_eq_false_iff_eq.mpr c15
          clear c15
          have H' := Aside0.mk H
          clear H
          go_wp2
          go_meet
          case rel => exact ⟨_, ((a0 == 10)), (by first | rfl | (simp; done) | (simp [*]; done)), H', ⟨by have := HJ1.out; have := HJ7.out; first | omega | exact Nat.le_refl _⟩, by repeat (first | exact Drawn0.refl _ | apply Drawn0.step)⟩
         ·
          rw [if_neg c15] at H
          have c15b0 : (a0 == 10) = false := beq_eq_false_iff_ne.mpr c15
          have c15b1 : (a0 != 10) = true := bne_iff_ne.mpr c15
          have H' := Aside0.mk H
          clear H
          go_wp2
          go_meet
          case rel => exact ⟨_, ((a0 == 11)), (by first | rfl | (simp; done) | (simp [*]; done)), H', ⟨by have := HJ1.out; have := HJ7.out; first | omega | exact Nat.le_refl _⟩, by repeat (first | exact Drawn0.refl _ | apply Drawn0.step)⟩
       case rest =>
        clear HC13
        try clear c1
        try clear p2
        try clear c3
        try clear c3b0
        try clear c3b1
        try clear c4
        try clear c4b0
        try clear c4b1
        try clear c5
        try clear c5b0
        try clear c5b1
        try clear c6
        try clear c6b0
        try clear c6b1
        try clear c7
        try clear c9
        try clear c9b0
        try clear c9b1
        try clear c10
        try clear c10b0
        try clear c10b1
        try clear c11
        try clear c11b0
        try clear c11b1
        try clear c12
        try clear c13
        try clear c14
        try clear c14b0
        try clear c14b1
        try clear c15
        try clear c15b0
        try clear c15b1
        try clear p2
        obtain ⟨kq, x15_12, rfl, HA, HJ12, ⟨mc12, rfl⟩⟩ := hcut
        cases kq with
        | zero => exact absurd HA.out (by simp [customsref24_Class.j2])
        | succ kj12 =>
         have H := HA.out
         clear HA
         simp only [customsref24_Class.j2] at H
         by_cases c16 : x15_12 = true
         ·
          subst c16
          have H1 : (some 3) = some r := by rw [if_pos rfl] at H; exact H
          clear H
          have H := H1
          clear H1
          obtain rfl := Option.some.inj H
          go_wp2
          go_ret
          exact ⟨by first | rfl | (simp; done) | (simp [*]; done), by repeat (first | exact Drawn0.refl _ | apply Drawn0.step)⟩
         ·
          replace c16 := Bool.eq_false_iff.mpr c16
          subst c16
          have H1 : (if a0 = 13 then (some 4) else (some 0)) = some r := by rw [if_neg (show ¬ (false = true) by decide)] at H; exact H
          clear H
          have H := H1
          clear H1
          by_cases c17 : a0 = 13
          ·
           rw [if_pos c17] at H
           have c17b0 : (a0 == 13) = true := beq_iff_eq.mpr c17
           have c17b1 : (a0 != 13) = false := bne_eq_false_iff_eq.mpr c17
           clear c17
           obtain rfl := Option.some.inj H
           go_wp2
           go_ret
           exact ⟨by first | rfl | (simp; done) | (simp [*]; done), by repeat (first | exact Drawn0.refl _ | apply Drawn0.step)⟩
          ·
           rw [if_neg c17] at H
           have c17b0 : (a0 == 13) = false := beq_eq_false_iff_ne.mpr c17
           have c17b1 : (a0 != 13) = true := bne_iff_ne.mpr c17
           obtain rfl := Option.some.inj H
           go_wp2
           go_ret
           exact ⟨by first | rfl | (simp; done) | (simp [*]; done), by repeat (first | exact Drawn0.refl _ | apply Drawn0.step)⟩

end Go.Proofs.YtgmedimcejnkjaaDoor.G
