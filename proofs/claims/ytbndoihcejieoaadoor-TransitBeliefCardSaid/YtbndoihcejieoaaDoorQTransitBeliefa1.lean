/-
  Functions of the program and of the references as plain Lean functions, each with a proof that the machine's call comes to what it answers. Conditions: what each contract states.
-/
import Derived.Test.YtbndoihcejieoaaDoorQCorew1
import Derived.Test.YtbndoihcejieoaaDoorQCorev1
import Derived.Test.YtbndoihcejieoaaDoorQCorea1
import Derived.Test.YtbndoihcejieoaaDoorQCorea2
import Derived.Test.YtbndoihcejieoaaDoorQCorea3
namespace Go.Proofs.YtbndoihcejieoaaDoor.G
open Go.RowKit Go.Proofs.YtbndoihcejieoaaDoorW.PrintWords Go.Proofs.YtbndoihcejieoaaDoorW.PrintLast Go.Proofs.YtbndoihcejieoaaDoorW.PrintMore
attribute [local go_sem] max2_int min2_int max_two min_two max_three min_three max_four min_four   -- for this text's walks alone
set_option linter.unusedVariables false
set_option linter.unusedSimpArgs false

def transit_Compare.f (l0 : List Int) (l1 : List Int) : Option (List Int × List Int) := if l0.length < 5000000000000 ∧ l1.length < 5000000000000 then some (lessL l0 l1, lessL l1 l0) else none
theorem transit_Compare.calls (A0 : Option Addr) (c0 : Nat) (l0 : List Int) (A1 : Option Addr) (c1 : Nat) (l1 : List Int) (r1 : List Int) (r2 : List Int) (w : World) (hr0 : Kd.C (Kd.int .i64) w A0 l0.length l0) (hc0 : l0.length ≤ c0) (hr1 : Kd.C (Kd.int .i64) w A1 l1.length l1) (hc1 : l1.length ≤ c1) (h : transit_Compare.f l0 l1 = some (r1, r2)) :
  Calls Tryd.prog 20 #[.slice A0 l0.length c0, .slice A1 l1.length c1] w fun e w' => ∃ v0_ v1_ : Value, e = .returned (.tuple #[v0_, v1_]) ∧ Kd.R (Kd.int .i64) 3 w' w.heap.size (fun k_ => some k_ ≠ (v1_ : Value).ownBlock) v0_ r1 ∧ Kd.R (Kd.int .i64) 3 w' w.heap.size (fun k_ => some k_ ≠ (v0_ : Value).ownBlock) v1_ r2 ∧ Below w.heap.size w w' := by
 unfold transit_Compare.f at h
 by_cases c : l0.length < 5000000000000 ∧ l1.length < 5000000000000
 ·
  rw [if_pos c] at h
  obtain ⟨rfl, rfl⟩ := Prod.mk.inj (Option.some.inj h)
  exact compare_calls A0 c0 l0 A1 c1 l1 w hr0 hc0 hr1 hc1 c.1 c.2
 ·
  rw [if_neg c] at h
  cases h


def customslaw35_awake.f : Option Bool := some true
theorem customslaw35_awake.calls (r1 : Bool) (w : World) (hG_changes : GL_changes w) (h : customslaw35_awake.f = some r1) : Calls Tryd.prog 16 #[] w fun e w' => e = .returned (.bool r1) ∧ Below w.heap.size w w' := by
 obtain rfl : true = r1 := Option.some.inj h
 exact awake_calls w hG_changes


/-- A state of type 76 at block g of W; what its slices lead to came in by w0. -/
def IsS76 (w0 W : World) (g : Nat) (f0 : List Int) (f1 : Int) : Prop := ∃ A0 c0, W.heap[g]? = some (.cells #[.slice A0 f0.length c0, .int .i64 f1] 76 (0, 0)) ∧ w0.heap.size ≤ g ∧ Kd.C (Kd.int .i64) w0 A0 f0.length f0
theorem IsS76.grown {w0 W : World} {g : Nat} {f0 : List Int} {f1 : Int} {W1 : World} {row : Option Nat} (h : IsS76 w0 W g f0 f1) (hw : W.grownBy W1 row) (hne : some g ≠ row) : IsS76 w0 W1 g f0 f1 := by
 obtain ⟨A0, c0, hb, hg, hr0⟩ := h
 exact ⟨A0, c0, blk_grown hb hw hne, hg, hr0⟩
theorem IsS76.kept {w0 W : World} {g : Nat} {f0 : List Int} {f1 : Int} {W1 : World} {S : Nat → Prop} (h : IsS76 w0 W g f0 f1) (hk : Kept W W1 S) (hne : ¬ S g) : IsS76 w0 W1 g f0 f1 := by
 obtain ⟨A0, c0, hb, hg, hr0⟩ := h
 exact ⟨A0, c0, blk_kept hb hk hne, hg, hr0⟩
theorem IsS76.below {w0 W : World} {g : Nat} {f0 : List Int} {f1 : Int} {W1 : World} (h : IsS76 w0 W g f0 f1) (hw : Below W.heap.size W W1) : IsS76 w0 W1 g f0 f1 := h.grown (grown_of_below hw none) (by simp)
theorem IsS76.alloc {w0 W : World} {g : Nat} {f0 : List Int} {f1 : Int} (h : IsS76 w0 W g f0 f1) (o : Obj) : IsS76 w0 (W.alloc o) g f0 f1 := h.below (below_alloc (Below.refl _ _) o)
theorem IsS76.drewN {w0 W : World} {g : Nat} {f0 : List Int} {f1 : Int} (h : IsS76 w0 W g f0 f1) (m : Nat) : IsS76 w0 (W.drewN m) g f0 f1 := h
theorem IsS76.drew {w0 W : World} {g : Nat} {f0 : List Int} {f1 : Int} (h : IsS76 w0 W g f0 f1) : IsS76 w0 W.drew g f0 f1 := h
theorem IsS76.at_ {w0 W : World} {g : Nat} {f0 : List Int} {f1 : Int} {w' : World} {m : Nat} (hq : W.drewN m = w') (h : IsS76 w0 W g f0 f1) : IsS76 w0 w' g f0 f1 := by subst hq; exact IsS76.drewN h m
theorem IsS76.apart {w0 W : World} {g : Nat} {f0 : List Int} {f1 : Int} {α : Type} {d : Kd α} {e : Nat} {base : Nat} {ok : Nat → Prop} {v : Value} {xs : List α} (h : IsS76 w0 W g f0 f1) (ho : d.R e W base ok v xs) (ht : ∀ q, q ∈ e :: d.E → q ≠ 76) : d.R e W base (fun k => ok k ∧ k ≠ g) v xs := by
 obtain ⟨A0, c0, hb, hg, hr0⟩ := h
 exact Kd.R_types ho hb ht
theorem IsS76.own_ne {w0 W : World} {g : Nat} {f0 : List Int} {f1 : Int} {α : Type} {d : Kd α} {e : Nat} {base : Nat} {ok : Nat → Prop} {v : Value} {xs : List α} (h : IsS76 w0 W g f0 f1) (ho : d.R e W base ok v xs) (ht : e ≠ 76) : some g ≠ v.ownBlock := by
 obtain ⟨A0, c0, hb, hg, hr0⟩ := h
 exact Kd.R_ne ho hb ht
theorem IsS76.lt {w0 W : World} {g : Nat} {f0 : List Int} {f1 : Int} (h : IsS76 w0 W g f0 f1) : g < W.heap.size := by
 obtain ⟨A0, c0, hb, hg, hr0⟩ := h
 exact blk_lt hb
theorem IsS76.ge {w0 W : World} {g : Nat} {f0 : List Int} {f1 : Int} (h : IsS76 w0 W g f0 f1) : w0.heap.size ≤ g := by
 obtain ⟨A0, c0, hb, hg, hr0⟩ := h
 exact hg
theorem IsS76.far {w0 W : World} {g : Nat} {f0 : List Int} {f1 : Int} {p : Addr} (h : IsS76 w0 W g f0 f1) (hne : g ≠ p.block) (u : Value) : IsS76 w0 (W.setCell p u) g f0 f1 := by
 obtain ⟨A0, c0, hb, hg, hr0⟩ := h
 exact ⟨A0, c0, blk_far hb hne u, hg, hr0⟩
theorem cellS76_0 {W : World} {g : Nat} {A0 : Option Addr} {c0 : Nat} {f0 : List Int} {f1 : Int} (h : W.heap[g]? = some (.cells #[.slice A0 f0.length c0, .int .i64 f1] 76 (0, 0))) : W.cell? ⟨g, 0, none⟩ = some (.slice A0 f0.length c0) := (blk_cell h 0).trans rfl
theorem cellS76_1 {W : World} {g : Nat} {A0 : Option Addr} {c0 : Nat} {f0 : List Int} {f1 : Int} (h : W.heap[g]? = some (.cells #[.slice A0 f0.length c0, .int .i64 f1] 76 (0, 0))) : W.cell? ⟨g, 1, none⟩ = some (.int .i64 f1) := (blk_cell h 1).trans rfl
theorem IsS76.set_1 {w0 W : World} {g : Nat} {f0 : List Int} {f1 : Int} (h : IsS76 w0 W g f0 f1) (x : Int) : IsS76 w0 (W.setCell ⟨g, 1, none⟩ (.int .i64 x)) g f0 x := by
 obtain ⟨A0, c0, hb, hg, hr0⟩ := h
 exact ⟨A0, c0, by simpa using blk_set hb 1 (.int .i64 x), hg, hr0⟩
theorem IsS76.new (w0 W : World) (A0 : Option Addr) (c0 : Nat) (f0 : List Int) (f1 : Int) (hB : Below w0.heap.size w0 W) (hr0 : Kd.C (Kd.int .i64) w0 A0 f0.length f0) : IsS76 w0 (W.alloc (.cells #[.slice A0 f0.length c0, .int .i64 f1] 76)) W.heap.size f0 f1 := ⟨A0, c0, by simpa using heap_alloc_new W _, hB.size, hr0⟩

def customsmade_Source_Left.f (s0_0 : List Int) (s0_1 : Int) : Option (Bool × Int) := some (decide (s0_1 < (s0_0.length : Int)), s0_1)
set_option maxHeartbeats 8000000 in
set_option maxRecDepth 100000 in
theorem customsmade_Source_Left.calls (g : Nat) (s0_0 : List Int) (s0_1 : Int) (r1 : Bool) (r2 : Int) (w0 w : World) (hI : IsS76 w0 w g s0_0 s0_1) (hB : Below w0.heap.size w0 w) (h : customsmade_Source_Left.f s0_0 s0_1 = some (r1, r2)) :
  Calls Tryd.prog 50 #[.pointer (some ⟨g, 0, none⟩)] w fun e w' => e = .returned (.bool r1) ∧ IsS76 w0 w' g s0_0 r2 ∧ Below w0.heap.size w0 w' ∧ KeepBut w w' g none := by
 have HI0 := Aside0.mk hI
 have HK := Aside0.mk (KeepBut.refl w g none)
 have HL := Aside0.mk hB.size
 clear hI
 have HW0 := Aside0.mk hB.size
 have HB := Aside0.mk hB
 clear hB
 have H : (some (decide (s0_1 < (s0_0.length : Int)), s0_1)) = some (r1, r2) := h
 clear h
 simp only [Option.some.injEq, Prod.mk.injEq] at H
 obtain ⟨rfl, rfl⟩ := H
 obtain ⟨ASz2_0, cSz2_0, HGz2, hgz2, HSz2_0⟩ := HI0.out
 have hcz2_0 := cellS76_0 HGz2
 have hcz2_1 := cellS76_1 HGz2
 have hfz2_1 := blk_frozen HGz2 1
 clear HGz2 hgz2
 go_enter Tryd.func50, Tryd.ntmps50
 go_wp2
 repeat (go_quiet (fail); try go_wp2)
 go_ret
 exact ⟨by first | rfl | (simp [errW_none, errW_some] <;> rfl) | (simp [*, errW_none, errW_some] <;> rfl), by repeat (first | (with_reducible first | exact HI0.out | apply IsS76.alloc | apply IsS76.drewN | apply IsS76.drew | apply IsS76.set_1) | exact HI0.out), by repeat (first | (with_reducible first | exact HB.out | apply below_alloc | apply pw_below_drewN | apply below_drew1 | refine below_set ?_ (IsS76.ge HI0.out)) | exact HB.out), by repeat (first | (with_reducible first | exact HK.out | apply KeepBut.set_ | apply keep_drewN | apply keep_drew | apply keep_alloc) | exact HK.out)⟩

def customsmade_Source_Next.f (s0_0 : List Int) (s0_1 : Int) (a1 : Int) : Option (Int × Int) := if s0_1 ≥ (s0_0.length : Int) then (some (0, s0_1)) else (if 0 ≤ (wrap64 ((wrap64 (s0_1 + 1)) - 1)) then (if (wrap64 ((wrap64 (s0_1 + 1)) - 1)) < (s0_0.length : Int) then ((customsmade_Within.f (rd s0_0 (wrap64 ((wrap64 (s0_1 + 1)) - 1))) a1).bind fun t772 => (some (t772, wrap64 (s0_1 + 1)))) else (none)) else (none))
set_option maxHeartbeats 8000000 in
set_option maxRecDepth 100000 in
theorem customsmade_Source_Next.calls (g : Nat) (s0_0 : List Int) (s0_1 : Int) (a1 : Int) (r1 : Int) (r2 : Int) (w0 w : World) (hI : IsS76 w0 w g s0_0 s0_1) (hB : Below w0.heap.size w0 w) (h : customsmade_Source_Next.f s0_0 s0_1 a1 = some (r1, r2)) :
  Calls Tryd.prog 51 #[.pointer (some ⟨g, 0, none⟩), .int .i64 a1] w fun e w' => e = .returned (.int .i64 r1) ∧ IsS76 w0 w' g s0_0 r2 ∧ Below w0.heap.size w0 w' ∧ KeepBut w w' g none := by
 have HI0 := Aside0.mk hI
 have HK := Aside0.mk (KeepBut.refl w g none)
 have HL := Aside0.mk hB.size
 clear hI
 have HW0 := Aside0.mk hB.size
 have HB := Aside0.mk hB
 clear hB
 have H : (if s0_1 ≥ (s0_0.length : Int) then (some (0, s0_1)) else (if 0 ≤ (wrap64 ((wrap64 (s0_1 + 1)) - 1)) then (if (wrap64 ((wrap64 (s0_1 + 1)) - 1)) < (s0_0.length : Int) then ((customsmade_Within.f (rd s0_0 (wrap64 ((wrap64 (s0_1 + 1)) - 1))) a1).bind fun t772 => (some (t772, wrap64 (s0_1 + 1)))) else (none)) else (none))) = some (r1, r2) := h
 clear h
 by_cases c3 : s0_1 ≥ (s0_0.length : Int)
 ·
  rw [if_pos c3] at H
  have c3b0 : decide ((s0_0.length : Int) ≤ s0_1) = true := decide_eq_true c3
  clear c3
  simp only [Option.some.injEq, Prod.mk.injEq] at H
  obtain ⟨rfl, rfl⟩ := H
  obtain ⟨ASz4_0, cSz4_0, HGz4, hgz4, HSz4_0⟩ := HI0.out
  have hcz4_0 := cellS76_0 HGz4
  have hcz4_1 := cellS76_1 HGz4
  have hfz4_1 := blk_frozen HGz4 1
  clear HGz4 hgz4
  go_enter Tryd.func51, Tryd.ntmps51
  go_wp2
  repeat (go_quiet (fail); try go_wp2)
  go_ret
  exact ⟨by first | rfl | (simp [errW_none, errW_some] <;> rfl) | (simp [*, errW_none, errW_some] <;> rfl), by repeat (first | (with_reducible first | exact HI0.out | apply IsS76.alloc | apply IsS76.drewN | apply IsS76.drew | apply IsS76.set_1) | exact HI0.out), by repeat (first | (with_reducible first | exact HB.out | apply below_alloc | apply pw_below_drewN | apply below_drew1 | refine below_set ?_ (IsS76.ge HI0.out)) | exact HB.out), by repeat (first | (with_reducible first | exact HK.out | apply KeepBut.set_ | apply keep_drewN | apply keep_drew | apply keep_alloc) | exact HK.out)⟩
 ·
  rw [if_neg c3] at H
  have c3b0 : decide ((s0_0.length : Int) ≤ s0_1) = false := decide_eq_false c3
  clear c3
  obtain ⟨ji5, hji5⟩ : ∃ j_ : Int, (wrap64 ((wrap64 (s0_1 + 1)) - 1)) = j_ := ⟨_, rfl⟩
  replace H : (if 0 ≤ (ji5) then (if (ji5) < (s0_0.length : Int) then ((customsmade_Within.f (rd s0_0 (ji5)) a1).bind fun t772 => (some (t772, wrap64 (s0_1 + 1)))) else (none)) else (none)) = some (r1, r2) := by first | (rw [hji5] at H; exact H) | (simp only [hji5] at H ⊢; exact H)
  have hji5w : (IntKind.i64.wrap ((wrap64 (s0_1 + 1)) - 1)) = ji5 := (i64_w _).trans hji5
  by_cases c6 : 0 ≤ (ji5)
  ·
   rw [if_pos c6] at H
   have c6b0 : decide (0 ≤ (ji5)) = true := decide_eq_true c6
   clear c6
   by_cases c7 : (ji5) < (s0_0.length : Int)
   ·
    rw [if_pos c7] at H
    have c7b0 : decide ((ji5) < (s0_0.length : Int)) = true := decide_eq_true c7
    clear c7
    replace H := Option.bind_eq_some_iff.mp H
    obtain ⟨t772, A80, H⟩ := H
    replace H : (some (t772, wrap64 (s0_1 + 1))) = some (r1, r2) := H
    have A8 := Aside0.mk A80
    clear A80
    simp only [Option.some.injEq, Prod.mk.injEq] at H
    obtain ⟨rfl, rfl⟩ := H
    obtain ⟨ASz9_0, cSz9_0, HGz9, hgz9, HSz9_0⟩ := HI0.out
    have hcz9_0 := cellS76_0 HGz9
    have hcz9_1 := cellS76_1 HGz9
    have hfz9_1 := blk_frozen HGz9 1
    clear HGz9 hgz9
    have p771 : 0 ≤ ((ji5) : Int) := of_decide_eq_true (by first | (with_reducible assumption) | assumption)
    have q771 : (ji5) < (s0_0.length : Int) := of_decide_eq_true (by first | (with_reducible assumption) | assumption)
    obtain ⟨ad771, e771, hx771_0⟩ := Kd.at_int HSz9_0 (ji5) p771 q771
    cases e771
    have hn771_0 : ad771.block ≠ g := Nat.ne_of_lt (Nat.lt_of_lt_of_le (by have := World.block_lt_of_cell? _ _ hx771_0; first | rwa [add_block] at this | exact this) (IsS76.ge HI0.out))
    replace hx771_0 := pw_cell_below HB.out hx771_0
    replace hx771_0 := (cell_far (p := ⟨g, 1, none⟩) (by first | (rw [add_block]; exact hn771_0) | (show (Addr.add _ _).block ≠ _; rw [add_block]; exact hn771_0) | exact hn771_0) (.int .i64 (wrap64 (s0_1 + 1)))).trans hx771_0
    (try have hy771_0 := fun (n_ : Nat) => (show (((w.drewN n_).setCell ⟨g, 1, none⟩ (.int .i64 (wrap64 (s0_1 + 1))))).cell? _ = some _ from hx771_0))
    clear hn771_0
    replace p771 := eq_true p771
    replace q771 := eq_true q771
    go_enter Tryd.func51, Tryd.ntmps51
    go_wp2_with (first | (go_at_call 8; (with_reducible refine (customsmade_Within.calls (rd s0_0 (ji5)) a1 t772 _ A8.out).mono ?_); rintro e w' ⟨rfl, ⟨nd, rfl⟩⟩; (try first | exact ⟨rfl, _, World.drewN_drewN _ _ _⟩ | exact ⟨rfl, _, Eq.trans (World.drewN_drewN _ _ _) (congrArg (World.drewN _) (Nat.add_assoc _ _ _))⟩)))
    repeat (go_quiet (first | (go_at_call 8; (with_reducible refine (customsmade_Within.calls (rd s0_0 (ji5)) a1 t772 _ A8.out).mono ?_); rintro e w' ⟨rfl, ⟨nd, rfl⟩⟩; (try first | exact ⟨rfl, _, World.drewN_drewN _ _ _⟩ | exact ⟨rfl, _, Eq.trans (World.drewN_drewN _ _ _) (congrArg (World.drewN _) (Nat.add_assoc _ _ _))⟩))); try go_wp2_with (first | (go_at_call 8; (with_reducible refine (customsmade_Within.calls (rd s0_0 (ji5)) a1 t772 _ A8.out).mono ?_); rintro e w' ⟨rfl, ⟨nd, rfl⟩⟩; (try first | exact ⟨rfl, _, World.drewN_drewN _ _ _⟩ | exact ⟨rfl, _, Eq.trans (World.drewN_drewN _ _ _) (congrArg (World.drewN _) (Nat.add_assoc _ _ _))⟩))))
    go_ret
    exact ⟨by first | rfl | (simp [errW_none, errW_some] <;> rfl) | (simp only [← hji5]; first | rfl | (simp [errW_none, errW_some] <;> rfl)) | (simp [*, errW_none, errW_some] <;> rfl), by repeat (first | (with_reducible first | exact HI0.out | apply IsS76.alloc | apply IsS76.drewN | apply IsS76.drew | apply IsS76.set_1) | exact HI0.out), by repeat (first | (with_reducible first | exact HB.out | apply below_alloc | apply pw_below_drewN | apply below_drew1 | refine below_set ?_ (IsS76.ge HI0.out)) | exact HB.out), by repeat (first | (with_reducible first | exact HK.out | apply KeepBut.set_ | apply keep_drewN | apply keep_drew | apply keep_alloc) | exact HK.out)⟩
   ·
    rw [if_neg c7] at H
    exact absurd H (by simp)
  ·
   rw [if_neg c6] at H
   exact absurd H (by simp)

def customslaw35_incidents.l0 : Nat → List (S53) → List Int → Int → Option ((List (S53)))
 | 0, _, _, _ => none
 | k + 1, x4, x776000, x776001 => (customsmade_Source_Left.f x776000 x776001).bind fun bt776 => (if bt776.1 = true then ((customsmade_Source_Next.f x776000 bt776.2 2).bind fun bt778 => ((customsmade_Source_Next.f x776000 bt778.2 2).bind fun bt780 => ((customsmade_Source_Next.f x776000 bt780.2 6).bind fun bt782 => ((customsmade_Source_Next.f x776000 bt782.2 6).bind fun bt784 => (if x4.length < 3518437208883 then (customslaw35_incidents.l0 k (x4 ++ [(⟨wrap64 (100 + bt778.1), wrap64 ((x4.length : Int) + 1), wrap64 (1 + bt780.1), bt782.1, bt784.1⟩ : S53)]) x776000 bt784.2) else (none)))))) else (some x4))
def customslaw35_incidents.f (k : Nat) (l0 : List Int) : Option ((List (S53))) := (customsmade_Cut.f l0 60).bind fun t773 => (customslaw35_incidents.l0 k ([] : List (S53)) t773 0)
set_option maxHeartbeats 8000000 in
set_option maxRecDepth 100000 in
theorem customslaw35_incidents.calls (k : Nat) (A0 : Option Addr) (c0 : Nat) (l0 : List Int) (r : List (S53)) (w : World) (hr0 : Kd.C (Kd.int .i64) w A0 l0.length l0) (hc0 : l0.length ≤ c0) (h : customslaw35_incidents.f k l0 = some r) :
  Calls Tryd.prog 19 #[.slice A0 l0.length c0] w fun e w' => ∃ v0_ : Value, e = .returned (v0_) ∧ Kd.R k53 53 w' w.heap.size (fun _ => True) v0_ r ∧ Below w.heap.size w w' := by
 have hu76 := Tryd.underlying76
 have hu53 := Tryd.underlying53
 have HR0 := Aside0.mk hr0
 have HC0 := Aside0.mk hc0
 clear hr0 hc0
 have HB := Aside0.mk (Below.refl w.heap.size w)
 have H : ((customsmade_Cut.f l0 60).bind fun t773 => (customslaw35_incidents.l0 k ([] : List (S53)) t773 0)) = some r := h
 clear h
 replace H := Option.bind_eq_some_iff.mp H
 obtain ⟨t773, A20, H⟩ := H
 replace H : (customslaw35_incidents.l0 k ([] : List (S53)) t773 0) = some r := H
 have A2 := Aside0.mk A20
 clear A20
 have H' := Aside0.mk H
 clear H
 go_enter Tryd.func19, Tryd.ntmps19
 go_wp2_with (first | ((with_reducible refine gate_callee (f := 26) rfl ?_); refine goesL_ (some 6) rfl rfl Tryd.func26 (by kernel_rfl) rfl #[.slice A0 l0.length c0, .int .i64 60] rfl (by (try simp only [List.map_toArray, List.map_cons, List.map_nil]); first | done | rfl | (simp only [List.length_drop, List.length_take]; rfl)) ?_; (with_reducible refine (customsmade_Cut.reads _ _ l0 60 t773 _ ?side1 ?side2 A2.out).mono ?_); (case side1 => repeat (first | exact HR0.out | (with_reducible refine Kd.C_alloc ?_ _) | (with_reducible refine Kd.C_drewN ?_ _) | (with_reducible refine Kd.C_drew ?_))); (case side2 => exact HC0.out); rintro e w3 ⟨AR774, cR774, rfl, hr, hc, hb⟩; refine ⟨_, rfl, ?_⟩; have n0_ := Aside0.mk (below_step (by repeat (first | (with_reducible first | exact HB.out | apply below_alloc | apply pw_below_drewN | apply below_drew1) | exact HB.out)) hb); have n1_ := Aside0.mk (hr _ HR0.out); have n2_ := Aside0.mk (hc); clear HB; have HB := n0_; have HR774 := n1_; have HC774 := n2_; clear n0_ n1_ n2_; (try clear hb); (try clear hr); (try clear hc)) | ((with_reducible refine gate_dst (N := 8) rfl ?_); refine box_event ?hg (N := 8) ?hd (cs := #[.slice AR774 t773.length cR774, .int .i64 0]) (t := 76) ?hr ?_; (case hd => rfl); (case hg => rfl); (case hr => first | (go_simp; done) | (go_simp; rfl)); intro gb775 hg w4 hbox hb; have n0_ := Aside0.mk (below_step (by repeat (first | (with_reducible first | exact HB.out | apply below_alloc | apply pw_below_drewN | apply below_drew1) | exact HB.out)) hb); have n1_ := Aside0.mk ((⟨_, _, hbox, (by rw [hg]; exact (below_size (by repeat (first | (with_reducible first | exact HB.out | apply below_alloc | apply pw_below_drewN | apply below_drew1) | exact HB.out))) : w.heap.size ≤ gb775), HR774.out⟩ : IsS76 w w4 gb775 t773 0)); clear HB; have HB := n0_; have HI775 := n1_; clear n0_ n1_; clear hb hbox hg))
 go_loopg [4] k (fun kq v4 w' => ∃ (x4_1 : List (S53)) (x776001_1 : Int), Aside0 (customslaw35_incidents.l0 kq x4_1 t773 x776001_1 = some r) ∧ Aside0 (kq ≤ k) ∧ Aside0 (Kd.R k53 53 w' w.heap.size (fun _ => True) v4 x4_1) ∧ Aside0 (IsS76 w w' gb775 t773 x776001_1) ∧ Aside0 (Below w.heap.size w w'))
 case atStart => exact ⟨(([] : List (S53))), (0), H', ⟨Nat.le_refl _⟩, ⟨by first | exact Kd.R_nil _ _ _ _ _ | exact Kd.N_nil _ _ _ _ _ | exact Kd.V_nil _ _ _ _ _ | exact Kd.Q_nil _ _ _ _ _ | exact Kd.S_nil _ _ _ _ _⟩, ⟨by repeat (first | (with_reducible first | exact HI775.out | apply IsS76.alloc | apply IsS76.drewN | apply IsS76.drew | apply IsS76.set_1) | exact HI775.out)⟩, ⟨by repeat (first | (with_reducible first | exact HB.out | apply below_alloc | apply pw_below_drewN | apply below_drew1 | refine below_set ?_ (IsS76.ge HI775.out)) | exact HB.out)⟩⟩
 case round =>
  clear H'
  try clear c1
  try clear c2
  try clear p2
  obtain ⟨x4_1, x776001_1, HA, HK1, HO_4, HI775, HB⟩ := hrel
  cases gk with
  | zero => exact absurd HA.out (by simp [customslaw35_incidents.l0])
  | succ k1 =>
   have H := HA.out
   clear HA
   simp only [customslaw35_incidents.l0] at H
   replace H := Option.bind_eq_some_iff.mp H
   obtain ⟨⟨t776, t777⟩, A50, H⟩ := H
   replace H : (if t776 = true then ((customsmade_Source_Next.f t773 t777 2).bind fun bt778 => ((customsmade_Source_Next.f t773 bt778.2 2).bind fun bt780 => ((customsmade_Source_Next.f t773 bt780.2 6).bind fun bt782 => ((customsmade_Source_Next.f t773 bt782.2 6).bind fun bt784 => (if x4_1.length < 3518437208883 then (customslaw35_incidents.l0 k1 (x4_1 ++ [(⟨wrap64 (100 + bt778.1), wrap64 ((x4_1.length : Int) + 1), wrap64 (1 + bt780.1), bt782.1, bt784.1⟩ : S53)]) t773 bt784.2) else (none)))))) else (some x4_1)) = some r := H
   have A5 := Aside0.mk A50
   clear A50
   by_cases c6 : t776 = true
   ·
    subst c6
    have H1 : ((customsmade_Source_Next.f t773 t777 2).bind fun bt778 => ((customsmade_Source_Next.f t773 bt778.2 2).bind fun bt780 => ((customsmade_Source_Next.f t773 bt780.2 6).bind fun bt782 => ((customsmade_Source_Next.f t773 bt782.2 6).bind fun bt784 => (if x4_1.length < 3518437208883 then (customslaw35_incidents.l0 k1 (x4_1 ++ [(⟨wrap64 (100 + bt778.1), wrap64 ((x4_1.length : Int) + 1), wrap64 (1 + bt780.1), bt782.1, bt784.1⟩ : S53)]) t773 bt784.2) else (none)))))) = some r := by rw [if_pos rfl] at H; exact H
    clear H
    have H := H1
    clear H1
    replace H := Option.bind_eq_some_iff.mp H
    obtain ⟨⟨t778, t779⟩, A70, H⟩ := H
    replace H : ((customsmade_Source_Next.f t773 t779 2).bind fun bt780 => ((customsmade_Source_Next.f t773 bt780.2 6).bind fun bt782 => ((customsmade_Source_Next.f t773 bt782.2 6).bind fun bt784 => (if x4_1.length < 3518437208883 then (customslaw35_incidents.l0 k1 (x4_1 ++ [(⟨wrap64 (100 + t778), wrap64 ((x4_1.length : Int) + 1), wrap64 (1 + bt780.1), bt782.1, bt784.1⟩ : S53)]) t773 bt784.2) else (none))))) = some r := H
    have A7 := Aside0.mk A70
    clear A70
    replace H := Option.bind_eq_some_iff.mp H
    obtain ⟨⟨t780, t781⟩, A80, H⟩ := H
    replace H : ((customsmade_Source_Next.f t773 t781 6).bind fun bt782 => ((customsmade_Source_Next.f t773 bt782.2 6).bind fun bt784 => (if x4_1.length < 3518437208883 then (customslaw35_incidents.l0 k1 (x4_1 ++ [(⟨wrap64 (100 + t778), wrap64 ((x4_1.length : Int) + 1), wrap64 (1 + t780), bt782.1, bt784.1⟩ : S53)]) t773 bt784.2) else (none)))) = some r := H
    have A8 := Aside0.mk A80
    clear A80
    replace H := Option.bind_eq_some_iff.mp H
    obtain ⟨⟨t782, t783⟩, A90, H⟩ := H
    replace H : ((customsmade_Source_Next.f t773 t783 6).bind fun bt784 => (if x4_1.length < 3518437208883 then (customslaw35_incidents.l0 k1 (x4_1 ++ [(⟨wrap64 (100 + t778), wrap64 ((x4_1.length : Int) + 1), wrap64 (1 + t780), t782, bt784.1⟩ : S53)]) t773 bt784.2) else (none))) = some r := H
    have A9 := Aside0.mk A90
    clear A90
    replace H := Option.bind_eq_some_iff.mp H
    obtain ⟨⟨t784, t785⟩, A100, H⟩ := H
    replace H : (if x4_1.length < 3518437208883 then (customslaw35_incidents.l0 k1 (x4_1 ++ [(⟨wrap64 (100 + t778), wrap64 ((x4_1.length : Int) + 1), wrap64 (1 + t780), t782, t784⟩ : S53)]) t773 t785) else (none)) = some r := H
    have A10 := Aside0.mk A100
    clear A100
    by_cases c11 : x4_1.length < 3518437208883
    ·
     rw [if_pos c11] at H
     have LMc11 := Aside0.mk c11
     clear c11
     obtain ⟨y786, hy786⟩ : ∃ y_ : List (S53), y_ = (x4_1 ++ [(⟨wrap64 (100 + t778), wrap64 ((x4_1.length : Int) + 1), wrap64 (1 + t780), t782, t784⟩ : S53)]) := ⟨_, rfl⟩
     replace H : (customslaw35_incidents.l0 k1 y786 t773 t785) = some r := by first | (rw [hy786]; with_reducible exact H) | (have H2_ := (Option.bind_some _ _).symm.trans H; rw [hy786]; with_reducible exact H2_) | (have H2_ := (Option.bind_some _ _).symm.trans H; with_reducible exact H2_) | with_reducible exact H | (rw [hy786]; exact H) | exact H
     have Ny786 := Aside0.mk hy786
     clear hy786
     have H' := Aside0.mk H
     clear H
     go_wp2_with (first | ((with_reducible refine gate_callee (f := 50) rfl ?_); refine goesL_ (some 10) rfl rfl Tryd.func50 (by kernel_rfl) rfl #[.pointer (some ⟨gb775, 0, none⟩)] rfl (by (try simp only [List.map_toArray, List.map_cons, List.map_nil]); first | done | rfl | (simp only [List.length_drop, List.length_take]; rfl)) ?_; (with_reducible refine (customsmade_Source_Left.calls gb775 t773 x776001_1 true t777 w _ ?side1 ?side2 A5.out).mono ?_); (case side1 => repeat (first | (with_reducible first | exact HI775.out | apply IsS76.alloc | apply IsS76.drewN | apply IsS76.drew | apply IsS76.set_1) | exact HI775.out)); (case side2 => repeat (first | (with_reducible first | exact HB.out | apply below_alloc | apply pw_below_drewN | apply below_drew1 | refine below_set ?_ (IsS76.ge HI775.out)) | exact HB.out)); rintro e w12 ⟨rfl, hi, hb, hk⟩; refine ⟨_, rfl, ?_⟩; have n0_ := Aside0.mk (Kd.R_mono (Kd.R_keep (IsS76.apart (show IsS76 w _ gb775 t773 x776001_1 from by repeat (first | (with_reducible first | exact HI775.out | apply IsS76.alloc | apply IsS76.drewN | apply IsS76.drew | apply IsS76.set_1) | exact HI775.out)) (by (with_reducible repeat (first | apply Kd.R_alloc | apply Kd.R_drewN | apply Kd.R_drew)); exact HO_4.out) (by decide)) hk (fun _ h => h.2)) (fun _ h => h.1)); have n1_ := Aside0.mk (hb); have n2_ := Aside0.mk (hi); clear HO_4; clear HB; clear HI775; have HO_4 := n0_; have HB := n1_; have HI775 := n2_; clear n0_ n1_ n2_; (try clear hb); (try clear hb2); (try clear hk); (try clear hi)) | ((with_reducible refine gate_callee (f := 51) rfl ?_); refine goesL_ (some 13) rfl rfl Tryd.func51 (by kernel_rfl) rfl #[.pointer (some ⟨gb775, 0, none⟩), .int .i64 2] rfl (by (try simp only [List.map_toArray, List.map_cons, List.map_nil]); first | done | rfl | (simp only [List.length_drop, List.length_take]; rfl)) ?_; (with_reducible refine (customsmade_Source_Next.calls gb775 t773 t777 2 t778 t779 w _ ?side1 ?side2 A7.out).mono ?_); (case side1 => repeat (first | (with_reducible first | exact HI775.out | apply IsS76.alloc | apply IsS76.drewN | apply IsS76.drew | apply IsS76.set_1) | exact HI775.out)); (case side2 => repeat (first | (with_reducible first | exact HB.out | apply below_alloc | apply pw_below_drewN | apply below_drew1 | refine below_set ?_ (IsS76.ge HI775.out)) | exact HB.out)); rintro e w13 ⟨rfl, hi, hb, hk⟩; refine ⟨_, rfl, ?_⟩; have n0_ := Aside0.mk (Kd.R_mono (Kd.R_keep (IsS76.apart (show IsS76 w _ gb775 t773 t777 from by repeat (first | (with_reducible first | exact HI775.out | apply IsS76.alloc | apply IsS76.drewN | apply IsS76.drew | apply IsS76.set_1) | exact HI775.out)) (by (with_reducible repeat (first | apply Kd.R_alloc | apply Kd.R_drewN | apply Kd.R_drew)); exact HO_4.out) (by decide)) hk (fun _ h => h.2)) (fun _ h => h.1)); have n1_ := Aside0.mk (hb); have n2_ := Aside0.mk (hi); clear HO_4; clear HB; clear HI775; have HO_4 := n0_; have HB := n1_; have HI775 := n2_; clear n0_ n1_ n2_; (try clear hb); (try clear hb2); (try clear hk); (try clear hi); obtain ⟨Ao14, co14, eo14⟩ := Kd.R_slice HO_4.out; subst eo14) | ((with_reducible refine gate_callee (f := 51) rfl ?_); refine goesL_ (some 19) rfl rfl Tryd.func51 (by kernel_rfl) rfl #[.pointer (some ⟨gb775, 0, none⟩), .int .i64 2] rfl (by (try simp only [List.map_toArray, List.map_cons, List.map_nil]); first | done | rfl | (simp only [List.length_drop, List.length_take]; rfl)) ?_; (with_reducible refine (customsmade_Source_Next.calls gb775 t773 t779 2 t780 t781 w _ ?side1 ?side2 A8.out).mono ?_); (case side1 => repeat (first | (with_reducible first | exact HI775.out | apply IsS76.alloc | apply IsS76.drewN | apply IsS76.drew | apply IsS76.set_1) | exact HI775.out)); (case side2 => repeat (first | (with_reducible first | exact HB.out | apply below_alloc | apply pw_below_drewN | apply below_drew1 | refine below_set ?_ (IsS76.ge HI775.out)) | exact HB.out)); rintro e w15 ⟨rfl, hi, hb, hk⟩; refine ⟨_, rfl, ?_⟩; have n0_ := Aside0.mk (Kd.R_mono (Kd.R_keep (IsS76.apart (show IsS76 w _ gb775 t773 t779 from by repeat (first | (with_reducible first | exact HI775.out | apply IsS76.alloc | apply IsS76.drewN | apply IsS76.drew | apply IsS76.set_1) | exact HI775.out)) (by (with_reducible repeat (first | apply Kd.R_alloc | apply Kd.R_drewN | apply Kd.R_drew)); exact HO_4.out) (by decide)) hk (fun _ h => h.2)) (fun _ h => h.1)); have n1_ := Aside0.mk (hb); have n2_ := Aside0.mk (hi); clear HO_4; clear HB; clear HI775; have HO_4 := n0_; have HB := n1_; have HI775 := n2_; clear n0_ n1_ n2_; (try clear hb); (try clear hb2); (try clear hk); (try clear hi)) | ((with_reducible refine gate_callee (f := 51) rfl ?_); refine goesL_ (some 22) rfl rfl Tryd.func51 (by kernel_rfl) rfl #[.pointer (some ⟨gb775, 0, none⟩), .int .i64 6] rfl (by (try simp only [List.map_toArray, List.map_cons, List.map_nil]); first | done | rfl | (simp only [List.length_drop, List.length_take]; rfl)) ?_; (with_reducible refine (customsmade_Source_Next.calls gb775 t773 t781 6 t782 t783 w _ ?side1 ?side2 A9.out).mono ?_); (case side1 => repeat (first | (with_reducible first | exact HI775.out | apply IsS76.alloc | apply IsS76.drewN | apply IsS76.drew | apply IsS76.set_1) | exact HI775.out)); (case side2 => repeat (first | (with_reducible first | exact HB.out | apply below_alloc | apply pw_below_drewN | apply below_drew1 | refine below_set ?_ (IsS76.ge HI775.out)) | exact HB.out)); rintro e w16 ⟨rfl, hi, hb, hk⟩; refine ⟨_, rfl, ?_⟩; have n0_ := Aside0.mk (Kd.R_mono (Kd.R_keep (IsS76.apart (show IsS76 w _ gb775 t773 t781 from by repeat (first | (with_reducible first | exact HI775.out | apply IsS76.alloc | apply IsS76.drewN | apply IsS76.drew | apply IsS76.set_1) | exact HI775.out)) (by (with_reducible repeat (first | apply Kd.R_alloc | apply Kd.R_drewN | apply Kd.R_drew)); exact HO_4.out) (by decide)) hk (fun _ h => h.2)) (fun _ h => h.1)); have n1_ := Aside0.mk (hb); have n2_ := Aside0.mk (hi); clear HO_4; clear HB; clear HI775; have HO_4 := n0_; have HB := n1_; have HI775 := n2_; clear n0_ n1_ n2_; (try clear hb); (try clear hb2); (try clear hk); (try clear hi)) | ((with_reducible refine gate_callee (f := 51) rfl ?_); refine goesL_ (some 24) rfl rfl Tryd.func51 (by kernel_rfl) rfl #[.pointer (some ⟨gb775, 0, none⟩), .int .i64 6] rfl (by (try simp only [List.map_toArray, List.map_cons, List.map_nil]); first | done | rfl | (simp only [List.length_drop, List.length_take]; rfl)) ?_; (with_reducible refine (customsmade_Source_Next.calls gb775 t773 t783 6 t784 t785 w _ ?side1 ?side2 A10.out).mono ?_); (case side1 => repeat (first | (with_reducible first | exact HI775.out | apply IsS76.alloc | apply IsS76.drewN | apply IsS76.drew | apply IsS76.set_1) | exact HI775.out)); (case side2 => repeat (first | (with_reducible first | exact HB.out | apply below_alloc | apply pw_below_drewN | apply below_drew1 | refine below_set ?_ (IsS76.ge HI775.out)) | exact HB.out)); rintro e w17 ⟨rfl, hi, hb, hk⟩; refine ⟨_, rfl, ?_⟩; have n0_ := Aside0.mk (Kd.R_mono (Kd.R_keep (IsS76.apart (show IsS76 w _ gb775 t773 t783 from by repeat (first | (with_reducible first | exact HI775.out | apply IsS76.alloc | apply IsS76.drewN | apply IsS76.drew | apply IsS76.set_1) | exact HI775.out)) (by (with_reducible repeat (first | apply Kd.R_alloc | apply Kd.R_drewN | apply Kd.R_drew)); exact HO_4.out) (by decide)) hk (fun _ h => h.2)) (fun _ h => h.1)); have n1_ := Aside0.mk (hb); have n2_ := Aside0.mk (hi); clear HO_4; clear HB; clear HI775; have HO_4 := n0_; have HB := n1_; have HI775 := n2_; clear n0_ n1_ n2_; (try clear hb); (try clear hb2); (try clear hk); (try clear hi)) | ((with_reducible refine gate_builtin (b := .append) (xs := #[.tmp 11, .tmp 26]) rfl ?_); at_builtin; refine Kd.R_append k53 (w0 := w) w.heap.size rfl (.tmp 11) (.tmp 26) 44 53 (.agg #[(.int .i64 0), (.int .i64 0), (.int .i64 0), (.int .i64 0), (.int .i64 0)]) 40 rfl Tryd.underlying44 info53 rfl (by decide) (by omega) (.slice Ao14 x4_1.length co14) x4_1 (⟨wrap64 (100 + t778), wrap64 ((x4_1.length : Int) + 1), wrap64 (1 + t780), t782, t784⟩ : S53) [.int .i64 (wrap64 (100 + t778)), .int .i64 (wrap64 ((x4_1.length : Int) + 1)), .int .i64 (wrap64 (1 + t780)), .int .i64 t782, .int .i64 t784] (fun _ => True) (fun _ => False) rfl rfl ?aP (fun _ hk => hk.elim) ?aF ?aO ?aB ?aS ?aL ?_; (case aP => exact k53_mkM _ _ _ (⟨wrap64 (100 + t778), wrap64 ((x4_1.length : Int) + 1), wrap64 (1 + t780), t782, t784⟩ : S53)); (case aB => exact (by repeat (first | (with_reducible first | exact HB.out | apply below_alloc | apply pw_below_drewN | apply below_drew1 | refine below_set ?_ (IsS76.ge HI775.out)) | exact HB.out))); (case aF => exact (fun _ _ => trivial)); (case aO => exact (by (with_reducible repeat (first | apply Kd.R_alloc | apply Kd.R_drewN | apply Kd.R_drew)); exact HO_4.out)); (case aS => exact (below_size (by repeat (first | (with_reducible first | exact HB.out | apply below_alloc | apply pw_below_drewN | apply below_drew1 | refine below_set ?_ (IsS76.ge HI775.out)) | exact HB.out)))); (case aL => have := LMc11.out; omega); intro v787 w18 ho hb hg hat; rw [← Ny786.out] at ho; have n0_ := Aside0.mk (IsS76.grown (by repeat (first | (with_reducible first | exact HI775.out | apply IsS76.alloc | apply IsS76.drewN | apply IsS76.drew | apply IsS76.set_1) | exact HI775.out)) hg (IsS76.own_ne HI775.out HO_4.out (by decide))); have n1_ := Aside0.mk (hb); have n2_ := Aside0.mk (ho); clear HI775; clear HB; clear HO_4; have HI775 := n0_; have HB := n1_; have HO788 := n2_; clear n0_ n1_ n2_; clear ho hb hg hat))
     go_roundg k1
     case measure => have := HK1.out; omega
     case rel => exact ⟨(y786), (t785), H', ⟨by have := HK1.out; omega⟩, ⟨by (with_reducible repeat (first | apply Kd.R_alloc | apply Kd.R_drewN | apply Kd.R_drew)); exact HO788.out⟩, ⟨by repeat (first | (with_reducible first | exact HI775.out | apply IsS76.alloc | apply IsS76.drewN | apply IsS76.drew | apply IsS76.set_1) | exact HI775.out)⟩, ⟨by repeat (first | (with_reducible first | exact HB.out | apply below_alloc | apply pw_below_drewN | apply below_drew1 | refine below_set ?_ (IsS76.ge HI775.out)) | exact HB.out)⟩⟩
    ·
     rw [if_neg c11] at H
     exact absurd H (by simp)
   ·
    replace c6 := Bool.eq_false_iff.mpr c6
    subst c6
    have H1 : (some x4_1) = some r := by rw [if_neg (show ¬ (false = true) by decide)] at H; exact H
    clear H
    have H := H1
    clear H1
    obtain rfl := Option.some.inj H
    go_wp2_with (first | ((with_reducible refine gate_callee (f := 50) rfl ?_); refine goesL_ (some 10) rfl rfl Tryd.func50 (by kernel_rfl) rfl #[.pointer (some ⟨gb775, 0, none⟩)] rfl (by (try simp only [List.map_toArray, List.map_cons, List.map_nil]); first | done | rfl | (simp only [List.length_drop, List.length_take]; rfl)) ?_; (with_reducible refine (customsmade_Source_Left.calls gb775 t773 x776001_1 false t777 w _ ?side1 ?side2 A5.out).mono ?_); (case side1 => repeat (first | (with_reducible first | exact HI775.out | apply IsS76.alloc | apply IsS76.drewN | apply IsS76.drew | apply IsS76.set_1) | exact HI775.out)); (case side2 => repeat (first | (with_reducible first | exact HB.out | apply below_alloc | apply pw_below_drewN | apply below_drew1 | refine below_set ?_ (IsS76.ge HI775.out)) | exact HB.out)); rintro e w19 ⟨rfl, hi, hb, hk⟩; refine ⟨_, rfl, ?_⟩; have n0_ := Aside0.mk (Kd.R_mono (Kd.R_keep (IsS76.apart (show IsS76 w _ gb775 t773 x776001_1 from by repeat (first | (with_reducible first | exact HI775.out | apply IsS76.alloc | apply IsS76.drewN | apply IsS76.drew | apply IsS76.set_1) | exact HI775.out)) (by (with_reducible repeat (first | apply Kd.R_alloc | apply Kd.R_drewN | apply Kd.R_drew)); exact HO_4.out) (by decide)) hk (fun _ h => h.2)) (fun _ h => h.1)); have n1_ := Aside0.mk (hb); have n2_ := Aside0.mk (hi); clear HO_4; clear HB; clear HI775; have HO_4 := n0_; have HB := n1_; have HI775 := n2_; clear n0_ n1_ n2_; (try clear hb); (try clear hb2); (try clear hk); (try clear hi)))
    go_ret
    exact ⟨_, by first | rfl | (simp [errW_none, errW_some] <;> rfl) | (simp [*, errW_none, errW_some] <;> rfl), by (with_reducible repeat (first | apply Kd.R_alloc | apply Kd.R_drewN | apply Kd.R_drew)); exact HO_4.out, by repeat (first | (with_reducible first | exact HB.out | apply below_alloc | apply pw_below_drewN | apply below_drew1 | refine below_set ?_ (IsS76.ge HI775.out)) | exact HB.out)⟩

def affL (lot : Int) (xs : List S53) : List Int := (xs.filter fun x => x.f2 == lot).map (·.f4)
def remL (lot : Int) (xs : List S53) : List Int := (xs.filter fun x => x.f2 == lot).map (·.f3)
def sealsL (affixed : List Int) (lot : Int) (xs : List S53) : List Int := (setL (affixed ++ affL lot xs)).filter fun n => !(decide (n < 1) || (remL lot xs).contains n)
def row53 (x : S53) : Array Value := #[.int .i64 x.f0, .int .i64 x.f1, .int .i64 x.f2, .int .i64 x.f3, .int .i64 x.f4]
theorem take53 (xs : List S53) (i : Nat) (hi : i < xs.length) : xs.take (i + 1) = xs.take i ++ [rd_T53 xs (i : Int)] := by
 rw [List.take_succ_eq_append_getElem hi]
 have e : rd_T53 xs (i : Int) = xs[i] := by
  show xs.getD (i : Int).toNat z53 = _
  rw [Int.toNat_natCast]
  simp [List.getD_eq_getElem?_getD, List.getElem?_eq_getElem hi]
 rw [e]
theorem affL_take (lot : Int) (xs : List S53) (i : Nat) (hi : i < xs.length) : affL lot (xs.take (i + 1)) = affL lot (xs.take i) ++ (if (rd_T53 xs (i : Int)).f2 == lot then [(rd_T53 xs (i : Int)).f4] else []) := by
 unfold affL
 rw [take53 xs i hi, List.filter_append, List.map_append]
 by_cases c : (rd_T53 xs (i : Int)).f2 == lot
 ·
  simp [c]
 ·
  simp [c]
theorem remL_take (lot : Int) (xs : List S53) (i : Nat) (hi : i < xs.length) : remL lot (xs.take (i + 1)) = remL lot (xs.take i) ++ (if (rd_T53 xs (i : Int)).f2 == lot then [(rd_T53 xs (i : Int)).f3] else []) := by
 unfold remL
 rw [take53 xs i hi, List.filter_append, List.map_append]
 by_cases c : (rd_T53 xs (i : Int)).f2 == lot
 ·
  simp [c]
 ·
  simp [c]
theorem affL_len (lot : Int) (xs : List S53) : (affL lot xs).length ≤ xs.length := by
 unfold affL
 rw [List.length_map]
 exact List.length_filter_le _ _
theorem remL_len (lot : Int) (xs : List S53) : (remL lot xs).length ≤ xs.length := by
 unfold remL
 rw [List.length_map]
 exact List.length_filter_le _ _
/-- A whole incident is read, wherever it lies. -/
theorem load53 {W : World} {ad : Addr} {x : S53} {m : Nat} (h0 : W.cell? (ad.add m) = some (.int .i64 x.f0)) (h1 : W.cell? ⟨(ad.add m).block, (ad.add m).off + 1, none⟩ = some (.int .i64 x.f1)) (h2 : W.cell? ⟨(ad.add m).block, (ad.add m).off + 2, none⟩ = some (.int .i64 x.f2)) (h3 : W.cell? ⟨(ad.add m).block, (ad.add m).off + 3, none⟩ = some (.int .i64 x.f3)) (h4 : W.cell? ⟨(ad.add m).block, (ad.add m).off + 4, none⟩ = some (.int .i64 x.f4)) :
  (Instr.loadAt 53 (.pointer (some (ad.add m)))).run Tryd.prog W = .ok (.agg (row53 x)) W := by
 have hl : (loadCells (ad.add m) (row53 x).toList.length).run Tryd.prog W = .ok (row53 x).toList.toArray W :=
  run_loadCells_list (P := Tryd.prog) W (ad.add m) (row53 x).toList (fun j v hv => by
   unfold row53 at hv
   rcases j with _ | _ | _ | _ | _ | j
   ·
    simp at hv; subst hv; simpa [Addr.add] using h0
   ·
    simp at hv; subst hv; simpa [Addr.add] using h1
   ·
    simp at hv; subst hv; simpa [Addr.add] using h2
   ·
    simp at hv; subst hv; simpa [Addr.add] using h3
   ·
    simp at hv; subst hv; simpa [Addr.add] using h4
   ·
    simp at hv)
 have hi : (Tryd.prog.info? 53).map (·.size) = some 5 := by kernel_rfl
 cases hq : Tryd.prog.info? 53 with
 | none => simp [hq] at hi
 | some i =>
  have hs : i.size = 5 := by simpa [hq] using hi
  have hagg : (isAgg 53).run Tryd.prog W = .ok true W := by
   unfold isAgg
   rw [Sem.run_bind, run_underlying Tryd.underlying53 W]
   rfl
  have hl' : (loadCells (ad.add m) 5).run Tryd.prog W = .ok (row53 x) W := hl
  simp [Instr.loadAt, Instr.sureAddr, loadVar, Sem.run_bind, hagg, sizeOf, typeInfo, hq, hs, hl']
theorem store53 {W : World} {g : Nat} (x : S53) (h : W.heap[g]? = some (.cells #[.int .i64 0, .int .i64 0, .int .i64 0, .int .i64 0, .int .i64 0] 53 (0, 0))) :
  ∃ W1, (Instr.storeAt 53 (.pointer (some ⟨g, 0, none⟩)) (.agg (row53 x))).run Tryd.prog W = .ok () W1 ∧ W1.heap[g]? = some (.cells (row53 x) 53 (0, 0)) ∧ Same g W W1 :=
 store_gen h 0 53 (row53 x) (by show 0 + 5 ≤ 5; omega) (by show (Tryd.prog.info? 53).map (·.size) = some 5; kernel_rfl) (by
  refine Array.all_eq_true_iff_forall_mem.2 (fun y hy => ?_)
  simp only [row53, List.mem_toArray, List.mem_cons, List.not_mem_nil, or_false] at hy
  rcases hy with rfl | rfl | rfl | rfl | rfl <;> rfl) (row53 x) rfl

/-- Two rows that are built beside each other: u, and v, which lies in the variable g8 (or will lie there). -/
structure Two (w : World) (g8 : Nat) (c8 : Value) (W : World) (u : Value) (U : List Int) (v : Value) (V : List Int) : Prop where
 r8 : W.heap[g8]? = some (.cells #[c8] 25 (0, 0))
 ru : Kd.R (Kd.int .i64) 3 W w.heap.size (fun k => some k ≠ v.ownBlock) u U
 rv : Kd.R (Kd.int .i64) 3 W w.heap.size (fun k => some k ≠ u.ownBlock) v V
 b : Below w.heap.size w W
 g : w.heap.size ≤ g8
section
variable {w W W1 : World} {g8 g10 : Nat} {c8 u v u1 v1 : Value} {U V : List Int} {x : Int} {row : Array Value}
theorem Two.below (h : Two w g8 c8 W u U v V) (k : Below W.heap.size W W1) : Two w g8 c8 W1 u U v V :=
 ⟨blk_below h.r8 k, Kd.R_below h.ru k, Kd.R_below h.rv k, h.b.trans (k.mono h.b.size), h.g⟩
theorem Two.lu (h : Two w g8 c8 W u U v V) : ∀ k, W.heap.size ≤ k → some k ≠ u.ownBlock := Kd.fresh' (Kd.R_lt h.ru)
theorem Two.lv (h : Two w g8 c8 W u U v V) : ∀ k, W.heap.size ≤ k → some k ≠ v.ownBlock := Kd.fresh' (Kd.R_lt h.rv)
theorem Two.appU (h : Two w g8 c8 W u U v V) (ho : Kd.R (Kd.int .i64) 3 W1 w.heap.size (fun k => some k ≠ v.ownBlock) u1 (U ++ [x])) (hb : Below w.heap.size w W1) (hg : W.grownBy W1 u.ownBlock) (hat : u1.ownBlock = u.ownBlock ∨ ∃ b, u1.ownBlock = some b ∧ W.heap.size ≤ b) : Two w g8 c8 W1 u1 (U ++ [x]) v V :=
 ⟨(hg.block g8 (blk_lt h.r8) (Kd.R_ne h.ru h.r8 (by decide))).trans h.r8, ho, Kd.R_mono (Kd.R_after (ok := fun _ => True) (Kd.R_mono h.rv (fun _ hk => ⟨trivial, hk⟩)) hg hat) (fun _ hk => hk.2), hb, h.g⟩
theorem Two.appV (h : Two w g8 c8 W u U v V) (ho : Kd.R (Kd.int .i64) 3 W1 w.heap.size (fun k => some k ≠ u.ownBlock) v1 (V ++ [x])) (hb : Below w.heap.size w W1) (hg : W.grownBy W1 v.ownBlock) (hat : v1.ownBlock = v.ownBlock ∨ ∃ b, v1.ownBlock = some b ∧ W.heap.size ≤ b) : Two w g8 c8 W1 u U v1 (V ++ [x]) :=
 ⟨(hg.block g8 (blk_lt h.r8) (Kd.R_ne h.rv h.r8 (by decide))).trans h.r8, Kd.R_mono (Kd.R_after (ok := fun _ => True) (Kd.R_mono h.ru (fun _ hk => ⟨trivial, hk⟩)) hg hat) (fun _ hk => hk.2), ho, hb, h.g⟩
theorem Two.same (h : Two w g8 c8 W u U v V) (hW : W1.heap[g8]? = some (.cells #[v] 25 (0, 0))) (k : Same g8 W W1) : Two w g8 v W1 u U v V :=
 ⟨hW, R_same h.ru h.r8 (by decide) k, R_same h.rv h.r8 (by decide) k, (Mv.of_below h.b (fun _ => False)).then_ (Mv.same (fun k => k = g8) rfl k) (fun i hi => .inr (by rw [hi]; exact h.g)) |>.below (Nat.le_refl _) (fun _ hk => hk.elim), h.g⟩
theorem Two.same10 (h : Two w g8 c8 W u U v V) (h10 : W.heap[g10]? = some (.cells row 53 (0, 0))) (hne : g8 ≠ g10) (hge : w.heap.size ≤ g10) (k : Same g10 W W1) : Two w g8 c8 W1 u U v V :=
 ⟨(k.block g8 hne).trans h.r8, R_same h.ru h10 (by decide) k, R_same h.rv h10 (by decide) k, (Mv.of_below h.b (fun _ => False)).then_ (Mv.same (fun k => k = g10) rfl k) (fun i hi => .inr (by rw [hi]; exact hge)) |>.below (Nat.le_refl _) (fun _ hk => hk.elim), h.g⟩
end
section
variable {P : Program} {ops : Array Oper} {Q : Exit → Act → World → Prop} {oi : Oper} {N : Option Tmp} {a : Act} {Kc : Act → World → Prop}
/-- A slice of one number is made, in a region that draws. -/
theorem lit_step {W : World} {cs : Array Value} {t : TypeId} {n : Nat} (hw : Region.wanted oi (yielded ops a.tmps) = true) (hN : oi.dst = N)
  (hrun : (execOp a.eval oi).run P W = .ok (.value (.slice (some ⟨W.heap.size, 0, none⟩) n n)) (W.alloc (.cells cs t (0, 0))))
  (h : ∀ g, g = W.heap.size → ∀ w1, w1.heap[g]? = some (.cells cs t (0, 0)) → Below W.heap.size W w1 → Kc (a.put N (.slice (some ⟨g, 0, none⟩) n n)) w1) :
  if Region.wanted oi (yielded ops a.tmps) = true then Oper.wp P oi a W Kc Q else Kc (a.put N undef) W :=
 value_ hw hN hrun (h _ rfl _ (blk_new W _) (below_alloc (Below.refl _ _) _))
end
section
variable {ops : Array Oper} {Q : Exit → Act → World → Prop} {o : Oper} {a : Act} {Kc : Act → World → Prop}
variable {w W : World} {g8 b : Nat} {c8 u v : Value} {U V : List Int} {x : Int}
theorem appU_step (s y : Operand) (T : Two w g8 c8 W u U v V) (L : W.heap[b]? = some (.cells #[.int .i64 x] 3 (0, 0))) (hl : U.length < 5000000000000) (hw : Region.wanted o (yielded ops a.tmps) = true)
  (ho : o.op = .call { callee := .builtin .append, args := #[s, y], argTypes := #[25, 25] }) (hs : a.eval s = u) (hy : a.eval y = .slice (some ⟨b, 0, none⟩) 1 1)
  (h : ∀ u1 w1, Two w g8 c8 w1 u1 (U ++ [x]) v V → W.grownBy w1 u.ownBlock → Kc (a.put o.dst u1) w1) :
  if Region.wanted o (yielded ops a.tmps) = true then Oper.wp Tryd.prog o a W Kc Q else Kc (a.put o.dst undef) W :=
 Kd.R_append_rows_step (Kd.int .i64) (w0 := w) w.heap.size hw s y 25 3 (.int .i64 0) 8 ho Tryd.underlying25 info3 rfl (by decide) (by omega) u U [x] (some ⟨b, 0, none⟩) 1 1 (fun k => some k ≠ v.ownBlock) (fun _ => False) hs hy T.ru (lit_C (l := [x]) L (by simp)) (fun _ _ h => h) (fun _ h => h.elim) T.lv T.b T.b.size (by omega)
  (fun u1 w1 ho hb hg hat => h u1 w1 (T.appU ho hb hg hat) hg)
theorem appV_step (s y : Operand) (T : Two w g8 c8 W u U v V) (L : W.heap[b]? = some (.cells #[.int .i64 x] 3 (0, 0))) (hl : V.length < 5000000000000) (hw : Region.wanted o (yielded ops a.tmps) = true)
  (ho : o.op = .call { callee := .builtin .append, args := #[s, y], argTypes := #[25, 25] }) (hs : a.eval s = v) (hy : a.eval y = .slice (some ⟨b, 0, none⟩) 1 1)
  (h : ∀ v1 w1, Two w g8 c8 w1 u U v1 (V ++ [x]) → W.grownBy w1 v.ownBlock → Kc (a.put o.dst v1) w1) :
  if Region.wanted o (yielded ops a.tmps) = true then Oper.wp Tryd.prog o a W Kc Q else Kc (a.put o.dst undef) W :=
 Kd.R_append_rows_step (Kd.int .i64) (w0 := w) w.heap.size hw s y 25 3 (.int .i64 0) 8 ho Tryd.underlying25 info3 rfl (by decide) (by omega) v V [x] (some ⟨b, 0, none⟩) 1 1 (fun k => some k ≠ u.ownBlock) (fun _ => False) hs hy T.rv (lit_C (l := [x]) L (by simp)) (fun _ _ h => h) (fun _ h => h.elim) T.lu T.b T.b.size (by omega)
  (fun v1 w1 ho hb hg hat => h v1 w1 (T.appV ho hb hg hat) hg)
end
theorem enters58 (args : Array Value) (w : World) : (callFunc 58 args).run Tryd.prog w = .ok (.enter 58 args) w := enters_ Tryd.func58 (by kernel_rfl) rfl args w
set_option maxHeartbeats 4000000 in
set_option maxRecDepth 100000 in
theorem clo58 (gb : Nat) (A : Option Addr) (c : Nat) (ys : List Int) (W : World) (hcell : W.cell? ⟨gb, 0, none⟩ = some (.slice A ys.length c)) (hr : Kd.C (Kd.int .i64) W A ys.length ys) (x : Int) : FnGives Tryd.prog 58 #[.pointer (some ⟨gb, 0, none⟩)] #[.int .i64 x] (.bool (decide (x < 1) || ys.contains x)) W := by
 show Calls Tryd.prog 58 #[.int .i64 x, .pointer (some ⟨gb, 0, none⟩)] W _
 have HR := Aside0.mk hr
 clear hr
 by_cases c1 : x < 1
 ·
  go_enter Tryd.func58, Tryd.ntmps58
  go_wp2
  go_ret
  exact ⟨by simp [c1], 0, rfl⟩
 ·
  go_enter Tryd.func58, Tryd.ntmps58
  go_wp2_with (first
   | (refine wpList_wanted rfl (by kernel_rfl) ?_; intro K hK)
   | (go_at_call 55; refine (contains_calls A c ys x W HR.out).mono ?_; rintro e w1 ⟨rfl, rfl⟩))
  go_ret
  exact ⟨by simp; intro h; omega, 0, rfl⟩
def seals_T7 : Bool × List (List Nat × List Nat) := (true, [([], []), ([], []), ([1], [1]), ([2], [2]), ([0, 3], [0, 3]), ([], []), ([], []), ([6], [6]), ([7], [7]), ([5, 8, 4], [5, 8]), ([4, 9, 0, 1, 2, 3, 4], [0, 4]), ([9, 10, 0, 1, 2, 3, 4, 5, 6, 7, 8, 9, 10], [9])])
def seals_B7 : List Nat := [0, 0, 2, 6, 15, 0, 0, 64, 192, 511, 1023, 2047]
theorem seals_tab7 : rtab .any (opsOf Tryd.f23 7) = seals_T7 := by kernel_rfl
theorem seals_bits7 : waitsOk seals_T7.2 seals_B7 = true := by kernel_rfl
theorem R_empty (a : Int) (w : World) (B : Nat) (P : Nat → Prop) : Kd.R (Kd.int .i64) 3 w B P (.slice none 0 0) (remL a []) := by
 exact Kd.R_nil (Kd.int .i64) 3 w B P
set_option maxHeartbeats 8000000 in
set_option maxRecDepth 100000 in
theorem seals_calls (A0 : Option Addr) (c0 : Nat) (l0 : List Int) (a1 : Int) (A2 : Option Addr) (c2 : Nat) (l2 : List S53) (w : World) (hr0 : Kd.C (Kd.int .i64) w A0 l0.length l0) (hc0 : l0.length ≤ c0) (hr2 : Kd.C k53 w A2 l2.length l2) (hc2 : l2.length ≤ c2) (hl : l0.length + l2.length < 5000000000000) :
  Calls Tryd.prog 23 #[.slice A0 l0.length c0, .int .i64 a1, .slice A2 l2.length c2] w fun e w' => ∃ v0_ : Value, e = .returned (v0_) ∧ Kd.R (Kd.int .i64) 3 w' w.heap.size (fun _ => True) v0_ (sealsL l0 a1 l2) ∧ Below w.heap.size w w' := by
 have HR0 := Aside0.mk hr0
 have HC0 := Aside0.mk hc0
 have HR2 := Aside0.mk hr2
 have HC2 := Aside0.mk hc2
 have HL := Aside0.mk hl
 have hb := hr2.2.1
 clear hr0 hc0 hr2 hc2 hl
 have hu53 := Tryd.underlying53
 go_enter Tryd.func23, Tryd.ntmps23
 go_wp2_with (first
  | (go_at_call 43; refine (slices_Clone_int_int.calls A0 c0 l0 l0 w HR0.out HC0.out (clone_fits (by have := HL.out; omega))).mono ?_; rintro e w1 ⟨u0, rfl, ho, hb⟩; have O1 := Aside0.mk ho; have B1 := Aside0.mk hb; clear ho hb)
  | ((with_reducible refine gate_dst (N := 8) rfl ?_); refine box_event rfl (N := 8) rfl (cs := #[.slice none 0 0]) (t := 25) ?hr ?_; (case hr => first | (go_simp; done) | (go_simp; rfl)); intro g8 hg w2 h1 b1; have T2 : Aside0 (Two w g8 (.slice none 0 0) w2 u0 (l0 ++ affL a1 (l2.take 0)) (.slice none 0 0) (remL a1 (l2.take 0))) := ⟨⟨h1, by rw [List.take_zero]; exact Kd.R_mono (by simpa [affL] using Kd.R_below O1.out b1) (fun _ _ => by simp [Value.ownBlock]), by rw [List.take_zero]; exact R_empty _ _ _ _, B1.out.trans (b1.mono B1.out.size), by rw [hg]; exact B1.out.size⟩⟩; clear h1 b1 hg O1 B1))
 go_loopw [7, 15] (fun v7 v15 wr => ∃ (i : Nat) (u vr : Value), i ≤ l2.length ∧ u = v7 ∧ v15 = .int .i64 i ∧ Aside0 (Two w g8 vr wr u (l0 ++ affL a1 (l2.take i)) vr (remL a1 (l2.take i)))) (fun v7 v15 _ => l2.length - (intOf v15).toNat)
 case atStart => exact ⟨0, _, _, by omega, rfl, rfl, T2⟩
 case round =>
  obtain ⟨i, u, vr, hi, rfl, rfl, HT⟩ := hrel
  by_cases h1 : i < l2.length
  ·
   have p1 : (i : Int) < l2.length := by omega
   have p0 : (0 : Int) ≤ i := by omega
   obtain ⟨ad, e0, k0, k1, k2, k3, k4⟩ := at_T53 HR2.out (i : Int) p0 p1
   subst e0
   rw [Int.toNat_natCast] at k0 k1 k2 k3 k4
   have EU := Aside0.mk (affL_take a1 l2 i h1)
   have EV := Aside0.mk (remL_take a1 l2 i h1)
   obtain ⟨x, hx⟩ : ∃ x, rd_T53 l2 (i : Int) = x := ⟨_, rfl⟩
   rw [hx] at k0 k1 k2 k3 k4 EU EV
   have LD := Aside0.mk (load53 (W := wr) (x := x) (ad := ad) (m := i * 5) ((HT.out.b.cell (World.block_lt_of_cell? w _ k0)).trans k0) ((HT.out.b.cell (World.block_lt_of_cell? w _ k1)).trans k1) ((HT.out.b.cell (World.block_lt_of_cell? w _ k2)).trans k2) ((HT.out.b.cell (World.block_lt_of_cell? w _ k3)).trans k3) ((HT.out.b.cell (World.block_lt_of_cell? w _ k4)).trans k4))
   clear hx k0 k1 k2 k3 k4
   obtain ⟨UL, hU⟩ : ∃ UL, l0 ++ affL a1 (l2.take i) = UL := ⟨_, rfl⟩
   obtain ⟨VL, hV⟩ : ∃ VL, remL a1 (l2.take i) = VL := ⟨_, rfl⟩
   have HUL : Aside0 (UL.length < 5000000000000) := ⟨by rw [← hU, List.length_append]; have h3 := affL_len a1 (l2.take i); rw [List.length_take] at h3; have := HL.out; omega⟩
   have HVL : Aside0 (VL.length < 5000000000000) := ⟨by rw [← hV]; have h3 := remL_len a1 (l2.take i); rw [List.length_take] at h3; have := HL.out; omega⟩
   rw [hU, hV] at HT
   rw [hV] at EV
   by_cases h2 : x.f2 = a1
   ·
    have c2 : (x.f2 == a1) = true := beq_iff_eq.mpr h2
    have EU2 : Aside0 (l0 ++ affL a1 (l2.take (i + 1)) = UL ++ [x.f4]) := ⟨by rw [EU.out, if_pos c2, ← List.append_assoc, hU]⟩
    have EV2 : Aside0 (remL a1 (l2.take (i + 1)) = VL ++ [x.f3]) := ⟨by rw [EV.out, if_pos c2]⟩
    clear h2 EU EV hU hV
    try go_wp2_with (first
     | ((with_reducible refine gate_dst (N := 18) rfl ?_); refine ev_load rfl (N := 18) rfl rfl (q := .pointer (some (ad.add (i * 5)))) (v := .agg (row53 x)) rfl LD.out ?_)
     | ((with_reducible refine gate_dst (N := 10) rfl ?_); refine box_event rfl (N := 10) rfl (cs := #[.int .i64 0, .int .i64 0, .int .i64 0, .int .i64 0, .int .i64 0]) (t := 53) ?hr ?_; (case hr => first | (go_simp; done) | (go_simp; rfl)); intro g10 hg w4 h1 b1; have T4 := Aside0.mk (HT.out.below b1); have X4 := Aside0.mk h1; have N4 := Aside0.mk (show g8 ≠ g10 by have := blk_lt HT.out.r8; omega); have G4 := Aside0.mk (show w.heap.size ≤ g10 by rw [hg]; exact HT.out.b.size); clear h1 b1 hg HT)
     | ((with_reducible refine gate_store (t := 53) (p := 10) rfl ?_); refine ev_store rfl (ty := 53) (p := 10) rfl rfl (q := .pointer (some ⟨g10, 0, none⟩)) (v := .agg (row53 x)) rfl rfl (store53 x X4.out) ?_; intro w5 hF; have T5 := Aside0.mk (T4.out.same10 X4.out N4.out G4.out hF.2); have X5 := Aside0.mk hF.1; have hc2 : w5.cell? ⟨g10, 2, none⟩ = some (.int .i64 x.f2) := (cell_of_row w5 g10 2 _ 53 (0, 0) hF.1).trans rfl; clear hF T4 X4))
    have T6 := Aside0.mk (T5.out.below (Below.refl _ _).drew)
    have X6 := Aside0.mk (blk_drew X5.out)
    clear T5 X5
    refine start_ (n := 12) (S := fun w' => w'.heap[g8]? = some (.cells #[vr] 25 (0, 0)) ∧ w'.heap[g10]? = some (.cells (row53 x) 53 (0, 0))) (ds := [11]) #[false, false, false, false, false, false, false, false, false, false, false, false] (by kernel_rfl) rfl rfl ⟨T6.out.r8, X6.out⟩ (fun hHeld => ?_); refine with_tabW seals_tab7 seals_bits7 (fun HT_ HW_ => ?_)
    generalize w5.drew = w6 at T6 X6 hHeld ⊢
    refine pure_ (i := 0) (N := some 23) (v := ?_) (a' := ?_) #[true, false, false, false, false, false, false, false, false, false, false, false] rfl rfl (any_of HT_.out (by kernel_rfl)) (fun _ _ _ h => h) (Or.inl ⟨by rfl, ?_⟩) ?_ ?_
    rotate_left
    ·
     intro w'
     go_simp
     with_reducible rfl
    rotate_left
    ·
     simp only [Act.put, List.setIfInBounds_toArray, List.set_cons_zero, List.set_cons_succ, i64_w, i32_w]
     rfl
    refine pure_ (i := 1) (N := some 24) (v := ?_) (a' := ?_) #[true, true, false, false, false, false, false, false, false, false, false, false] rfl rfl (any_of HT_.out (by kernel_rfl)) (fun _ _ _ h => h) (Or.inl ⟨by rfl, ?_⟩) ?_ ?_
    rotate_left
    ·
     intro w'
     go_simp
     with_reducible rfl
    rotate_left
    ·
     simp only [Act.put, List.setIfInBounds_toArray, List.set_cons_zero, List.set_cons_succ, i64_w, i32_w]
     rfl
    refine pure_ (i := 6) (N := some 29) (v := ?_) (a' := ?_) #[true, true, false, false, false, false, true, false, false, false, false, false] rfl rfl (any_of HT_.out (by kernel_rfl)) (fun _ _ _ h => h) (Or.inl ⟨by rfl, ?_⟩) ?_ ?_
    rotate_left
    ·
     intro w'
     go_simp
     with_reducible rfl
    rotate_left
    ·
     simp only [Act.put, List.setIfInBounds_toArray, List.set_cons_zero, List.set_cons_succ, i64_w, i32_w]
     rfl
    refine take_ (i := 2) (N := some 25) (v := .int .i64 x.f4) (a' := ?_) #[true, true, true, false, false, false, true, false, false, false, false, false] rfl rfl (take_ofW HT_.out HW_.out (by kernel_rfl)) (fun _ _ _ h => h) (Or.inl ⟨by rfl, fun w' hs => by
      have hc : w'.cell? ⟨g10, 4, none⟩ = some (.int .i64 x.f4) := (cell_of_row w' g10 4 _ 53 (0, 0) hs.2).trans rfl
      go_simp⟩) hHeld ?_ ?_
    rotate_left
    ·
     simp only [Act.put, List.setIfInBounds_toArray, List.set_cons_zero, List.set_cons_succ, i64_w, i32_w]
     rfl
    refine take_ (i := 7) (N := some 30) (v := .int .i64 x.f3) (a' := ?_) #[true, true, true, false, false, false, true, true, false, false, false, false] rfl rfl (take_ofW HT_.out HW_.out (by kernel_rfl)) (fun _ _ _ h => h) (Or.inl ⟨by rfl, fun w' hs => by
      have hc : w'.cell? ⟨g10, 3, none⟩ = some (.int .i64 x.f3) := (cell_of_row w' g10 3 _ 53 (0, 0) hs.2).trans rfl
      go_simp⟩) hHeld ?_ ?_
    rotate_left
    ·
     simp only [Act.put, List.setIfInBounds_toArray, List.set_cons_zero, List.set_cons_succ, i64_w, i32_w]
     rfl
    refine take_ (i := 5) (N := some 28) (v := vr) (a' := ?_) #[true, true, true, false, false, true, true, true, false, false, false, false] rfl rfl (take_ofW HT_.out HW_.out (by kernel_rfl)) (fun _ _ _ h => h) (Or.inl ⟨by rfl, fun w' hs => by
      have hc : w'.cell? ⟨g8, 0, none⟩ = some vr := (cell_of_row w' g8 0 _ 25 (0, 0) hs.1).trans rfl
      go_simp⟩) hHeld ?_ ?_
    rotate_left
    ·
     simp only [Act.put, List.setIfInBounds_toArray, List.set_cons_zero, List.set_cons_succ, i64_w, i32_w]
     rfl
    refine join_ (σ := Value × Value × Value × Value) 2 #[true, true, true, true, true, true, true, true, true, true, false, false] (fun s_ => [(26, s_.1), (27, s_.2.1), (31, s_.2.2.1), (32, s_.2.2.2)]) (fun s_ w' => Two w g8 vr w' s_.2.1 (UL ++ [x.f4]) s_.2.2.2 (VL ++ [x.f3]) ∧ w'.heap[g10]? = some (.cells (row53 x) 53 (0, 0))) ?_ ?_
    rotate_left
    ·
     intro hCont
     refine two_ (i := 3) (j := 8) (Ni := some 26) (Nj := some 31) #[true, true, true, true, false, true, true, true, false, false, false, false] #[true, true, true, false, false, true, true, true, true, false, false, false] rfl rfl rfl rfl (two_of HT_.out (by kernel_rfl)) (by decide) (by decide) (fun K hK => ?_) (fun K hK => ?_)
     ·
      refine lit_step (N := some 26) (cs := #[.int .i64 x.f4]) (t := 3) (n := 1) (by rfl) rfl ?hr ?_
      (case hr => first | (go_simp; done) | (go_simp; rfl))
      intro b3 hbg w7 hL hb
      have T7 := Aside0.mk (T6.out.below hb)
      have X7 := Aside0.mk (blk_below X6.out hb)
      have L3_7 := Aside0.mk (And.intro hL (And.intro (by rw [hbg]; exact T6.out.lu _ (Nat.le_refl _) : some b3 ≠ u.ownBlock) (by rw [hbg]; exact T6.out.lv _ (Nat.le_refl _) : some b3 ≠ vr.ownBlock)))
      clear hbg hL hb T6 X6
      refine hK.out _ _ ⟨T7.out.r8, X7.out⟩ (fun hHeld => ?_)
      clear hK K
      refine norm_ (a' := ?_) ?_ ?_
      rotate_left
      ·
       show Act.put _ (some 26) _ = _
       simp only [Act.put, List.setIfInBounds_toArray, List.set_cons_zero, List.set_cons_succ, i64_w, i32_w]
       rfl
      refine two_ (i := 4) (j := 8) (Ni := some 27) (Nj := some 31) #[true, true, true, true, true, true, true, true, false, false, false, false] #[true, true, true, true, false, true, true, true, true, false, false, false] rfl rfl rfl rfl (two_of HT_.out (by kernel_rfl)) (by decide) (by decide) (fun K hK => ?_) (fun K hK => ?_)
      ·
       refine appU_step (.tmp 23) (.tmp 26) T7.out L3_7.out.1 HUL.out (by rfl) rfl rfl rfl ?_
       intro u1 w8 hT hg
       have T8 := Aside0.mk hT
       have X8 := Aside0.mk ((hg.block g10 (blk_lt X7.out) (Kd.R_ne T7.out.ru X7.out (by decide))).trans X7.out)
       clear hT hg T7 X7 L3_7
       refine hK.out _ _ ⟨T8.out.r8, X8.out⟩ (fun hHeld => ?_)
       clear hK K
       refine norm_ (a' := ?_) ?_ ?_
       rotate_left
       ·
        show Act.put _ (some 27) _ = _
        simp only [Act.put, List.setIfInBounds_toArray, List.set_cons_zero, List.set_cons_succ, i64_w, i32_w]
        rfl
       refine one_ (i := 8) (N := some 31) #[true, true, true, true, true, true, true, true, true, false, false, false] rfl rfl (one_of HT_.out (by kernel_rfl)) (by decide) (fun K hK => ?_)
       refine lit_step (N := some 31) (cs := #[.int .i64 x.f3]) (t := 3) (n := 1) (by rfl) rfl ?hr ?_
       (case hr => first | (go_simp; done) | (go_simp; rfl))
       intro b8 hbg w9 hL hb
       have T9 := Aside0.mk (T8.out.below hb)
       have X9 := Aside0.mk (blk_below X8.out hb)
       have L8_9 := Aside0.mk (And.intro hL (And.intro (by rw [hbg]; exact T8.out.lu _ (Nat.le_refl _) : some b8 ≠ u1.ownBlock) (by rw [hbg]; exact T8.out.lv _ (Nat.le_refl _) : some b8 ≠ vr.ownBlock)))
       clear hbg hL hb T8 X8
       refine hK.out _ _ ⟨T9.out.r8, X9.out⟩ (fun hHeld => ?_)
       clear hK K
       refine norm_ (a' := ?_) ?_ ?_
       rotate_left
       ·
        show Act.put _ (some 31) _ = _
        simp only [Act.put, List.setIfInBounds_toArray, List.set_cons_zero, List.set_cons_succ, i64_w, i32_w]
        rfl
       refine one_ (i := 9) (N := some 32) #[true, true, true, true, true, true, true, true, true, true, false, false] rfl rfl (one_of HT_.out (by kernel_rfl)) (by decide) (fun K hK => ?_)
       refine appV_step (.tmp 28) (.tmp 31) T9.out L8_9.out.1 HVL.out (by rfl) rfl rfl rfl ?_
       intro v1 w10 hT hg
       have T10 := Aside0.mk hT
       have X10 := Aside0.mk ((hg.block g10 (blk_lt X9.out) (Kd.R_ne T9.out.rv X9.out (by decide))).trans X9.out)
       clear hT hg T9 X9 L8_9
       refine hK.out _ _ ⟨T10.out.r8, X10.out⟩ (fun hHeld => ?_)
       clear hK K
       refine norm_ (a' := ?_) ?_ ?_
       rotate_left
       ·
        show Act.put _ (some 32) _ = _
        simp only [Act.put, List.setIfInBounds_toArray, List.set_cons_zero, List.set_cons_succ, i64_w, i32_w]
        rfl
       exact norm_ (by simp only [putAll, Act.put, List.setIfInBounds_toArray, List.set_cons_zero, List.set_cons_succ]) (hCont (.slice (some ⟨b3, 0, none⟩) 1 1, u1, .slice (some ⟨b8, 0, none⟩) 1 1, v1) _ ⟨T10.out, X10.out⟩)
      ·
       refine lit_step (N := some 31) (cs := #[.int .i64 x.f3]) (t := 3) (n := 1) (by rfl) rfl ?hr ?_
       (case hr => first | (go_simp; done) | (go_simp; rfl))
       intro b8 hbg w8 hL hb
       have T8 := Aside0.mk (T7.out.below hb)
       have X8 := Aside0.mk (blk_below X7.out hb)
       have L8_8 := Aside0.mk (And.intro hL (And.intro (by rw [hbg]; exact T7.out.lu _ (Nat.le_refl _) : some b8 ≠ u.ownBlock) (by rw [hbg]; exact T7.out.lv _ (Nat.le_refl _) : some b8 ≠ vr.ownBlock)))
       have L3_8 := Aside0.mk (And.intro (blk_below L3_7.out.1 hb) L3_7.out.2)
       clear hbg hL hb T7 X7 L3_7
       refine hK.out _ _ ⟨T8.out.r8, X8.out⟩ (fun hHeld => ?_)
       clear hK K
       refine norm_ (a' := ?_) ?_ ?_
       rotate_left
       ·
        show Act.put _ (some 31) _ = _
        simp only [Act.put, List.setIfInBounds_toArray, List.set_cons_zero, List.set_cons_succ, i64_w, i32_w]
        rfl
       refine one_ (i := 4) (N := some 27) #[true, true, true, true, true, true, true, true, true, false, false, false] rfl rfl (one_of HT_.out (by kernel_rfl)) (by decide) (fun K hK => ?_)
       refine appU_step (.tmp 23) (.tmp 26) T8.out L3_8.out.1 HUL.out (by rfl) rfl rfl rfl ?_
       intro u1 w9 hT hg
       have T9 := Aside0.mk hT
       have X9 := Aside0.mk ((hg.block g10 (blk_lt X8.out) (Kd.R_ne T8.out.ru X8.out (by decide))).trans X8.out)
       have L8_9 := Aside0.mk (And.intro ((hg.block b8 (blk_lt L8_8.out.1) L8_8.out.2.1).trans L8_8.out.1) L8_8.out.2)
       clear hT hg T8 X8 L3_8 L8_8
       refine hK.out _ _ ⟨T9.out.r8, X9.out⟩ (fun hHeld => ?_)
       clear hK K
       refine norm_ (a' := ?_) ?_ ?_
       rotate_left
       ·
        show Act.put _ (some 27) _ = _
        simp only [Act.put, List.setIfInBounds_toArray, List.set_cons_zero, List.set_cons_succ, i64_w, i32_w]
        rfl
       refine one_ (i := 9) (N := some 32) #[true, true, true, true, true, true, true, true, true, true, false, false] rfl rfl (one_of HT_.out (by kernel_rfl)) (by decide) (fun K hK => ?_)
       refine appV_step (.tmp 28) (.tmp 31) T9.out L8_9.out.1 HVL.out (by rfl) rfl rfl rfl ?_
       intro v1 w10 hT hg
       have T10 := Aside0.mk hT
       have X10 := Aside0.mk ((hg.block g10 (blk_lt X9.out) (Kd.R_ne T9.out.rv X9.out (by decide))).trans X9.out)
       clear hT hg T9 X9 L8_9
       refine hK.out _ _ ⟨T10.out.r8, X10.out⟩ (fun hHeld => ?_)
       clear hK K
       refine norm_ (a' := ?_) ?_ ?_
       rotate_left
       ·
        show Act.put _ (some 32) _ = _
        simp only [Act.put, List.setIfInBounds_toArray, List.set_cons_zero, List.set_cons_succ, i64_w, i32_w]
        rfl
       exact norm_ (by simp only [putAll, Act.put, List.setIfInBounds_toArray, List.set_cons_zero, List.set_cons_succ]) (hCont (.slice (some ⟨b3, 0, none⟩) 1 1, u1, .slice (some ⟨b8, 0, none⟩) 1 1, v1) _ ⟨T10.out, X10.out⟩)
     ·
      refine lit_step (N := some 31) (cs := #[.int .i64 x.f3]) (t := 3) (n := 1) (by rfl) rfl ?hr ?_
      (case hr => first | (go_simp; done) | (go_simp; rfl))
      intro b8 hbg w7 hL hb
      have T7 := Aside0.mk (T6.out.below hb)
      have X7 := Aside0.mk (blk_below X6.out hb)
      have L8_7 := Aside0.mk (And.intro hL (And.intro (by rw [hbg]; exact T6.out.lu _ (Nat.le_refl _) : some b8 ≠ u.ownBlock) (by rw [hbg]; exact T6.out.lv _ (Nat.le_refl _) : some b8 ≠ vr.ownBlock)))
      clear hbg hL hb T6 X6
      refine hK.out _ _ ⟨T7.out.r8, X7.out⟩ (fun hHeld => ?_)
      clear hK K
      refine norm_ (a' := ?_) ?_ ?_
      rotate_left
      ·
       show Act.put _ (some 31) _ = _
       simp only [Act.put, List.setIfInBounds_toArray, List.set_cons_zero, List.set_cons_succ, i64_w, i32_w]
       rfl
      refine one_ (i := 3) (N := some 26) #[true, true, true, true, false, true, true, true, true, false, false, false] rfl rfl (one_of HT_.out (by kernel_rfl)) (by decide) (fun K hK => ?_)
      refine lit_step (N := some 26) (cs := #[.int .i64 x.f4]) (t := 3) (n := 1) (by rfl) rfl ?hr ?_
      (case hr => first | (go_simp; done) | (go_simp; rfl))
      intro b3 hbg w8 hL hb
      have T8 := Aside0.mk (T7.out.below hb)
      have X8 := Aside0.mk (blk_below X7.out hb)
      have L3_8 := Aside0.mk (And.intro hL (And.intro (by rw [hbg]; exact T7.out.lu _ (Nat.le_refl _) : some b3 ≠ u.ownBlock) (by rw [hbg]; exact T7.out.lv _ (Nat.le_refl _) : some b3 ≠ vr.ownBlock)))
      have L8_8 := Aside0.mk (And.intro (blk_below L8_7.out.1 hb) L8_7.out.2)
      clear hbg hL hb T7 X7 L8_7
      refine hK.out _ _ ⟨T8.out.r8, X8.out⟩ (fun hHeld => ?_)
      clear hK K
      refine norm_ (a' := ?_) ?_ ?_
      rotate_left
      ·
       show Act.put _ (some 26) _ = _
       simp only [Act.put, List.setIfInBounds_toArray, List.set_cons_zero, List.set_cons_succ, i64_w, i32_w]
       rfl
      refine one_ (i := 4) (N := some 27) #[true, true, true, true, true, true, true, true, true, false, false, false] rfl rfl (one_of HT_.out (by kernel_rfl)) (by decide) (fun K hK => ?_)
      refine appU_step (.tmp 23) (.tmp 26) T8.out L3_8.out.1 HUL.out (by rfl) rfl rfl rfl ?_
      intro u1 w9 hT hg
      have T9 := Aside0.mk hT
      have X9 := Aside0.mk ((hg.block g10 (blk_lt X8.out) (Kd.R_ne T8.out.ru X8.out (by decide))).trans X8.out)
      have L8_9 := Aside0.mk (And.intro ((hg.block b8 (blk_lt L8_8.out.1) L8_8.out.2.1).trans L8_8.out.1) L8_8.out.2)
      clear hT hg T8 X8 L3_8 L8_8
      refine hK.out _ _ ⟨T9.out.r8, X9.out⟩ (fun hHeld => ?_)
      clear hK K
      refine norm_ (a' := ?_) ?_ ?_
      rotate_left
      ·
       show Act.put _ (some 27) _ = _
       simp only [Act.put, List.setIfInBounds_toArray, List.set_cons_zero, List.set_cons_succ, i64_w, i32_w]
       rfl
      refine one_ (i := 9) (N := some 32) #[true, true, true, true, true, true, true, true, true, true, false, false] rfl rfl (one_of HT_.out (by kernel_rfl)) (by decide) (fun K hK => ?_)
      refine appV_step (.tmp 28) (.tmp 31) T9.out L8_9.out.1 HVL.out (by rfl) rfl rfl rfl ?_
      intro v1 w10 hT hg
      have T10 := Aside0.mk hT
      have X10 := Aside0.mk ((hg.block g10 (blk_lt X9.out) (Kd.R_ne T9.out.rv X9.out (by decide))).trans X9.out)
      clear hT hg T9 X9 L8_9
      refine hK.out _ _ ⟨T10.out.r8, X10.out⟩ (fun hHeld => ?_)
      clear hK K
      refine norm_ (a' := ?_) ?_ ?_
      rotate_left
      ·
       show Act.put _ (some 32) _ = _
       simp only [Act.put, List.setIfInBounds_toArray, List.set_cons_zero, List.set_cons_succ, i64_w, i32_w]
       rfl
      exact norm_ (by simp only [putAll, Act.put, List.setIfInBounds_toArray, List.set_cons_zero, List.set_cons_succ]) (hCont (.slice (some ⟨b3, 0, none⟩) 1 1, u1, .slice (some ⟨b8, 0, none⟩) 1 1, v1) _ ⟨T10.out, X10.out⟩)
    rintro ⟨s1, u1, s3, v1⟩ w7 ⟨hT, hX⟩
    have T7 : Aside0 (Two w g8 vr w7 u1 (UL ++ [x.f4]) v1 (VL ++ [x.f3])) := ⟨hT⟩
    have X7 := Aside0.mk hX
    clear hT hX T6 X6
    refine norm_ (a' := ?_) ?_ ?_
    rotate_left
    ·
     simp only [putAll, Act.put, List.setIfInBounds_toArray, List.set_cons_zero, List.set_cons_succ]
     rfl
    refine pure_ (i := 10) (N := some 7) (v := ?_) (a' := ?_) #[true, true, true, true, true, true, true, true, true, true, true, false] rfl rfl (any_of HT_.out (by kernel_rfl)) (fun _ _ _ h => h) (Or.inl ⟨by rfl, ?_⟩) ?_ ?_
    rotate_left
    ·
     intro w'
     go_simp
     with_reducible rfl
    rotate_left
    ·
     simp only [Act.put, List.setIfInBounds_toArray, List.set_cons_zero, List.set_cons_succ, i64_w, i32_w]
     rfl
    obtain ⟨w8, hr, hF⟩ := store_one T7.out.r8 0 (by show 0 < 1; omega) v1 (rone T7.out.rv) (T' := #[v1]) rfl 25 (by kernel_rfl)
    have T8 := Aside0.mk (T7.out.same hF.1 hF.2)
    refine last_store (i := 11) (w1 := w8) #[true, true, true, true, true, true, true, true, true, true, true, true] rfl rfl (one_of HT_.out (by kernel_rfl)) (by decide) (by rfl) (exec_store rfl (q := .pointer (some ⟨g8, 0, none⟩)) (v := v1) rfl rfl hr) ?_
    clear hr hF T7 X7
    refine done_ (done_of HT_.out (by kernel_rfl)) ?_
    go_wp2
    go_roundw
    case rel => exact ⟨i + 1, u1, v1, by omega, rfl, by go_num, ⟨by rw [EU2.out, EV2.out]; exact T8.out⟩⟩
    case measure => simp [intOf]; omega
   ·
    have c2 : (x.f2 == a1) = false := beq_eq_false_iff_ne.mpr h2
    have EU2 : Aside0 (l0 ++ affL a1 (l2.take (i + 1)) = UL) := ⟨by rw [EU.out, if_neg (by rw [c2]; decide), List.append_nil, hU]⟩
    have EV2 : Aside0 (remL a1 (l2.take (i + 1)) = VL) := ⟨by rw [EV.out, if_neg (by rw [c2]; decide), List.append_nil]⟩
    clear h2 EU EV hU hV
    go_wp2_with (first
     | ((with_reducible refine gate_dst (N := 18) rfl ?_); refine ev_load rfl (N := 18) rfl rfl (q := .pointer (some (ad.add (i * 5)))) (v := .agg (row53 x)) rfl LD.out ?_)
     | ((with_reducible refine gate_dst (N := 10) rfl ?_); refine box_event rfl (N := 10) rfl (cs := #[.int .i64 0, .int .i64 0, .int .i64 0, .int .i64 0, .int .i64 0]) (t := 53) ?hr ?_; (case hr => first | (go_simp; done) | (go_simp; rfl)); intro g10 hg w4 h1 b1; have T4 := Aside0.mk (HT.out.below b1); have X4 := Aside0.mk h1; have N4 := Aside0.mk (show g8 ≠ g10 by have := blk_lt HT.out.r8; omega); have G4 := Aside0.mk (show w.heap.size ≤ g10 by rw [hg]; exact HT.out.b.size); clear h1 b1 hg HT)
     | ((with_reducible refine gate_store (t := 53) (p := 10) rfl ?_); refine ev_store rfl (ty := 53) (p := 10) rfl rfl (q := .pointer (some ⟨g10, 0, none⟩)) (v := .agg (row53 x)) rfl rfl (store53 x X4.out) ?_; intro w5 hF; have T5 := Aside0.mk (T4.out.same10 X4.out N4.out G4.out hF.2); have X5 := Aside0.mk hF.1; have hc2 : w5.cell? ⟨g10, 2, none⟩ = some (.int .i64 x.f2) := (cell_of_row w5 g10 2 _ 53 (0, 0) hF.1).trans rfl; clear hF T4 X4))
    go_roundw
    case rel => exact ⟨i + 1, u, vr, by omega, rfl, by go_num, ⟨by rw [EU2.out, EV2.out]; exact T5.out⟩⟩
    case measure => simp [intOf]; omega
  ·
   obtain rfl : i = l2.length := by omega
   have p1 : ¬ ((l2.length : Nat) : Int) < l2.length := by omega
   rw [List.take_length] at HT
   have HUL : Aside0 ((l0 ++ affL a1 l2).length < 5000000000000) := ⟨by rw [List.length_append]; have h3 := affL_len a1 l2; have := HL.out; omega⟩
   have HS : Aside0 (sealsL l0 a1 l2 = (setL (l0 ++ affL a1 l2)).filter fun n => !(decide (n < 1) || (remL a1 l2).contains n)) := ⟨rfl⟩
   generalize l0 ++ affL a1 l2 = UL at HT HUL HS
   generalize remL a1 l2 = VL at HT HS
   obtain ⟨A7, c7, rfl, hc7, hC7⟩ := Kd.R_reads HT.out.ru
   obtain ⟨A8, c8, rfl, hc8, hC8⟩ := Kd.R_reads HT.out.rv
   have HC8 := Aside0.mk hC8
   clear hC8
   go_wp2_with (first
    | (go_at_call 53; refine (set_calls A7 c7 UL wr hC7 hc7 HUL.out).mono ?_; rintro e w3 ⟨v, rfl, ho, hb⟩; have O3 := Aside0.mk ho; have B3 := Aside0.mk hb; have P3 := Aside0.mk (blk_below HT.out.r8 hb); clear ho hb)
    | (go_at_call 52; refine (delete_calls O3.out (Nat.lt_of_le_of_lt (setL_len _) HUL.out) (fun n => decide (n < 1) || VL.contains n) 58 _ enters58 (fun W m x => clo58 g8 A8 c8 VL W (sees (w := wr) O3.out (Nat.le_refl _) (blk_lt HT.out.r8) B3.out P3.out HC8.out m).1 (sees (w := wr) O3.out (Nat.le_refl _) (blk_lt HT.out.r8) B3.out P3.out HC8.out m).2 x)).mono ?_; rintro e w4 ⟨v1, rfl, ho, hb⟩; have O4 := Aside0.mk (Kd.R_lower ho HT.out.b.size); have B4 := Aside0.mk (HT.out.b.trans ((B3.out.trans hb).mono HT.out.b.size)); clear ho hb))
   go_ret
   exact ⟨v1, rfl, by rw [HS.out]; exact O4.out, B4.out⟩


def transit_Seals.f (l0 : List Int) (a1 : Int) (l2 : List (S53)) : Option (List Int) := if l0.length + l2.length < 5000000000000 then some (sealsL l0 a1 l2) else none
theorem transit_Seals.calls (A0 : Option Addr) (c0 : Nat) (l0 : List Int) (a1 : Int) (A2 : Option Addr) (c2 : Nat) (l2 : List (S53)) (r : List Int) (w : World) (hr0 : Kd.C (Kd.int .i64) w A0 l0.length l0) (hc0 : l0.length ≤ c0) (hr2 : Kd.C k53 w A2 l2.length l2) (hc2 : l2.length ≤ c2) (h : transit_Seals.f l0 a1 l2 = some r) :
  Calls Tryd.prog 23 #[.slice A0 l0.length c0, .int .i64 a1, .slice A2 l2.length c2] w fun e w' => ∃ v0_ : Value, e = .returned (v0_) ∧ Kd.R (Kd.int .i64) 3 w' w.heap.size (fun _ => True) v0_ r ∧ Below w.heap.size w w' := by
 unfold transit_Seals.f at h
 by_cases c : l0.length + l2.length < 5000000000000
 ·
  rw [if_pos c] at h
  obtain rfl := Option.some.inj h
  exact seals_calls A0 c0 l0 a1 A2 c2 l2 w hr0 hc0 hr2 hc2 c
 ·
  rw [if_neg c] at h
  cases h


mutual
def customsmade_Order.l0 : Nat → Int → List Int → Int → List Int → Int → Option (List Int)
 | 0, _, _, _, _, _ => none
 | k + 1, x0, x6, x8, x955000, x955001 => if x8 < x0 then (if x6.length < 17592186044416 then (customsmade_Order.l0 k x0 (x6 ++ [x8]) (wrap64 (x8 + 1)) x955000 x955001) else (none)) else (customsmade_Order.l1 k x6 ([] : List Int) x955000 x955001)
def customsmade_Order.l1 : Nat → List Int → List Int → List Int → Int → Option (List Int)
 | 0, _, _, _, _ => none
 | k + 1, x6, x7, x955000, x955001 => if (x6.length : Int) > 0 then ((customsmade_Source_Next.f x955000 x955001 (x6.length : Int)).bind fun bt958 => (if 0 ≤ bt958.1 then (if bt958.1 < (x6.length : Int) then (if x7.length < 17592186044416 then ((some (([] : List Int) : List Int)).bind fun y964 => (if bt958.1 ≤ (x6.length : Int) then ((some (x6.take (bt958.1 : Int).toNat : List Int)).bind fun y967 => (if y964.length + y967.length < 17592186044416 then ((some (y964 ++ y967 : List Int)).bind fun y971 => (if 0 ≤ (wrap64 (bt958.1 + 1)) then (if (wrap64 (bt958.1 + 1)) ≤ (x6.length : Int) then ((some (x6.drop ((wrap64 (bt958.1 + 1)) : Int).toNat : List Int)).bind fun y974 => (if y971.length + y974.length < 17592186044416 then (customsmade_Order.l1 k (y971 ++ y974) (x7 ++ [rd x6 bt958.1]) x955000 bt958.2) else (none))) else (none)) else (none))) else (none))) else (none))) else (none)) else (none)) else (none))) else (some x7)
end
def customsmade_Order.f (k : Nat) (a0 : Int) (l1 : List Int) : Option (List Int) := customsmade_Order.l0 k a0 ([] : List Int) 0 l1 0
def customsmade_Order.T10 : Bool × List (List Nat × List Nat) := (true, [([], []), ([], []), ([], []), ([1, 2], [1, 2]), ([0, 3], [0, 3]), ([], []), ([], []), ([6], [6]), ([5, 7], [5, 7]), ([4, 8, 4], [4, 8]), ([9, 9, 0, 1, 2, 3, 4, 5, 6, 7, 8, 9], [1, 5, 9])])
def customsmade_Order.B10 : List Nat := [0, 0, 0, 6, 15, 0, 0, 64, 224, 511, 1023]
theorem customsmade_Order.tab10 : rtab .any (opsOf Tryd.f25 10) = customsmade_Order.T10 := by kernel_rfl
theorem customsmade_Order.bits10 : waitsOk customsmade_Order.T10.2 customsmade_Order.B10 = true := by kernel_rfl
set_option maxHeartbeats 8000000 in
set_option maxRecDepth 100000 in
theorem customsmade_Order.calls (k : Nat) (a0 : Int) (A1 : Option Addr) (c1 : Nat) (l1 : List Int) (r : List Int) (w : World) (hr1 : Kd.C (Kd.int .i64) w A1 l1.length l1) (hc1 : l1.length ≤ c1) (h : customsmade_Order.f k a0 l1 = some r) :
  Calls Tryd.prog 25 #[.int .i64 a0, .slice A1 l1.length c1] w fun e w' => ∃ v0_ : Value, e = .returned (v0_) ∧ Kd.R (Kd.int .i64) 3 w' w.heap.size (fun _ => True) v0_ r ∧ Below w.heap.size w w' := by
 have hu76 := Tryd.underlying76
 have HR1 := Aside0.mk hr1
 have HC1 := Aside0.mk hc1
 clear hr1 hc1
 have HB := Aside0.mk (Below.refl w.heap.size w)
 have H : (customsmade_Order.l0 k a0 ([] : List Int) 0 l1 0) = some r := h
 clear h
 have H' := Aside0.mk H
 clear H
 go_enter Tryd.func25, Tryd.ntmps25
 go_wp2_with (first | ((with_reducible refine gate_dst (N := 12) rfl ?_); refine box_event ?hg (N := 12) ?hd (cs := #[.slice A1 l1.length c1, .int .i64 0]) (t := 76) ?hr ?_; (case hd => rfl); (case hg => rfl); (case hr => first | (go_simp; done) | (go_simp; rfl)); intro gb954 hg w3 hbox hb; have n0_ := Aside0.mk (below_step (by repeat (first | (with_reducible first | exact HB.out | apply below_alloc | apply pw_below_drewN | apply below_drew1) | exact HB.out)) hb); have n1_ := Aside0.mk ((⟨_, _, hbox, (by rw [hg]; exact (below_size (by repeat (first | (with_reducible first | exact HB.out | apply below_alloc | apply pw_below_drewN | apply below_drew1) | exact HB.out))) : w.heap.size ≤ gb954), HR1.out⟩ : IsS76 w w3 gb954 l1 0)); clear HB; have HB := n0_; have HI954 := n1_; clear n0_ n1_; clear hb hbox hg))
 go_loopg [6, 8] k (fun kq v6 v8 w' => ∃ (x6_1 : List Int) (x8_1 : Int), v8 = .int .i64 x8_1 ∧ Aside0 (customsmade_Order.l0 kq a0 x6_1 x8_1 l1 0 = some r) ∧ Aside0 (kq ≤ k) ∧ Aside0 (Kd.R (Kd.int .i64) 3 w' w.heap.size (fun _ => True) v6 x6_1) ∧ Aside0 (IsS76 w w' gb954 l1 0) ∧ Aside0 (Below w.heap.size w w'))
 case atStart => exact ⟨(([] : List Int)), (0), (by first | rfl | (simp; done) | (simp [*]; done)), H', ⟨Nat.le_refl _⟩, ⟨by first | exact Kd.R_nil _ _ _ _ _ | exact Kd.N_nil _ _ _ _ _ | exact Kd.V_nil _ _ _ _ _ | exact Kd.Q_nil _ _ _ _ _ | exact Kd.S_nil _ _ _ _ _⟩, ⟨by repeat (first | (with_reducible first | exact HI954.out | apply IsS76.alloc | apply IsS76.drewN | apply IsS76.drew | apply IsS76.set_1) | exact HI954.out)⟩, ⟨by repeat (first | (with_reducible first | exact HB.out | apply below_alloc | apply pw_below_drewN | apply below_drew1 | refine below_set ?_ (IsS76.ge HI954.out)) | exact HB.out)⟩⟩
 case round =>
  clear H'
  try clear c1
  try clear c2
  try clear p2
  obtain ⟨x6_1, x8_1, rfl, HA, HK1, HO_6, HI954, HB⟩ := hrel
  cases gk with
  | zero => exact absurd HA.out (by simp [customsmade_Order.l0])
  | succ k1 =>
   have H := HA.out
   clear HA
   simp only [customsmade_Order.l0] at H
   by_cases c4 : x8_1 < a0
   ·
    rw [if_pos c4] at H
    have c4b0 : decide (x8_1 < a0) = true := decide_eq_true c4
    clear c4
    by_cases c5 : x6_1.length < 17592186044416
    ·
     rw [if_pos c5] at H
     have LMc5 := Aside0.mk c5
     clear c5
     obtain ⟨y955, hy955⟩ : ∃ y_ : List Int, y_ = (x6_1 ++ [x8_1]) := ⟨_, rfl⟩
     replace H : (customsmade_Order.l0 k1 a0 y955 (wrap64 (x8_1 + 1)) l1 0) = some r := by first | (rw [hy955]; with_reducible exact H) | (have H2_ := (Option.bind_some _ _).symm.trans H; rw [hy955]; with_reducible exact H2_) | (have H2_ := (Option.bind_some _ _).symm.trans H; with_reducible exact H2_) | with_reducible exact H | (rw [hy955]; exact H) | exact H
     have Ny955 := Aside0.mk hy955
     clear hy955
     have H' := Aside0.mk H
     clear H
     go_wp2_with (first | ((with_reducible refine gate_builtin (b := .append) (xs := #[.tmp 18, .tmp 20]) rfl ?_); at_builtin; refine Kd.R_append (Kd.int .i64) (w0 := w) w.heap.size rfl (.tmp 18) (.tmp 20) 25 3 (.int .i64 0) 8 rfl Tryd.underlying25 info3 rfl (by decide) (by omega) u6 x6_1 x8_1 [.int .i64 x8_1] (fun _ => True) (fun _ => False) rfl rfl ?aP (fun _ hk => hk.elim) ?aF ?aO ?aB ?aS ?aL ?_; (case aP => exact rfl); (case aB => exact (by repeat (first | (with_reducible first | exact HB.out | apply below_alloc | apply pw_below_drewN | apply below_drew1 | refine below_set ?_ (IsS76.ge HI954.out)) | exact HB.out))); (case aF => exact (fun _ _ => trivial)); (case aO => exact (by (with_reducible repeat (first | apply Kd.R_alloc | apply Kd.R_drewN | apply Kd.R_drew)); exact HO_6.out)); (case aS => exact (below_size (by repeat (first | (with_reducible first | exact HB.out | apply below_alloc | apply pw_below_drewN | apply below_drew1 | refine below_set ?_ (IsS76.ge HI954.out)) | exact HB.out)))); (case aL => have := LMc5.out; omega); intro v956 w6 ho hb hg hat; rw [← Ny955.out] at ho; have n0_ := Aside0.mk (IsS76.grown (by repeat (first | (with_reducible first | exact HI954.out | apply IsS76.alloc | apply IsS76.drewN | apply IsS76.drew | apply IsS76.set_1) | exact HI954.out)) hg (IsS76.own_ne HI954.out HO_6.out (by decide))); have n1_ := Aside0.mk (hb); have n2_ := Aside0.mk (ho); clear HI954; clear HB; clear HO_6; have HI954 := n0_; have HB := n1_; have HO957 := n2_; clear n0_ n1_ n2_; clear ho hb hg hat))
     go_roundg k1
     case measure => have := HK1.out; omega
     case rel => exact ⟨(y955), (wrap64 (x8_1 + 1)), (by first | rfl | (simp; done) | (simp [*]; done)), H', ⟨by have := HK1.out; omega⟩, ⟨by (with_reducible repeat (first | apply Kd.R_alloc | apply Kd.R_drewN | apply Kd.R_drew)); exact HO957.out⟩, ⟨by repeat (first | (with_reducible first | exact HI954.out | apply IsS76.alloc | apply IsS76.drewN | apply IsS76.drew | apply IsS76.set_1) | exact HI954.out)⟩, ⟨by repeat (first | (with_reducible first | exact HB.out | apply below_alloc | apply pw_below_drewN | apply below_drew1 | refine below_set ?_ (IsS76.ge HI954.out)) | exact HB.out)⟩⟩
    ·
     rw [if_neg c5] at H
     exact absurd H (by simp)
   ·
    rw [if_neg c4] at H
    have c4b0 : decide (x8_1 < a0) = false := decide_eq_false c4
    clear c4
    have H' := Aside0.mk H
    clear H
    go_wp2
    go_loopg [6, 7] k1 (fun kq v6 v7 w' => ∃ (x6_2 : List Int) (x7_2 : List Int) (x955001_2 : Int), Aside0 (customsmade_Order.l1 kq x6_2 x7_2 l1 x955001_2 = some r) ∧ Aside0 (kq ≤ k1) ∧ Aside0 (Kd.R (Kd.int .i64) 3 w' w.heap.size (fun k_ => some k_ ≠ (v7 : Value).ownBlock) v6 x6_2) ∧ Aside0 (Kd.R (Kd.int .i64) 3 w' w.heap.size (fun k_ => some k_ ≠ (v6 : Value).ownBlock) v7 x7_2) ∧ Aside0 (IsS76 w w' gb954 l1 x955001_2) ∧ Aside0 (Below w.heap.size w w'))
    case atStart => exact ⟨(x6_1), (([] : List Int)), (0), H', ⟨Nat.le_refl _⟩, ⟨by (with_reducible repeat (first | apply Kd.R_alloc | apply Kd.R_drewN | apply Kd.R_drew)); exact Kd.R_mono HO_6.out (fun _ hk => (by simp [Value.ownBlock]))⟩, ⟨by first | exact Kd.R_nil _ _ _ _ _ | exact Kd.N_nil _ _ _ _ _ | exact Kd.V_nil _ _ _ _ _ | exact Kd.Q_nil _ _ _ _ _ | exact Kd.S_nil _ _ _ _ _⟩, ⟨by repeat (first | (with_reducible first | exact HI954.out | apply IsS76.alloc | apply IsS76.drewN | apply IsS76.drew | apply IsS76.set_1) | exact HI954.out)⟩, ⟨by repeat (first | (with_reducible first | exact HB.out | apply below_alloc | apply pw_below_drewN | apply below_drew1 | refine below_set ?_ (IsS76.ge HI954.out)) | exact HB.out)⟩⟩
    case round =>
     clear H'
     try clear c1
     try clear c2
     try clear p2
     try clear c4
     try clear c4b0
     try clear c5
     try clear p6
     try clear p2
     obtain ⟨x6_2, x7_2, x955001_2, HA, HK2, HO_6, HO_7, HI954, HB⟩ := hrel
     cases gk with
     | zero => exact absurd HA.out (by simp [customsmade_Order.l1])
     | succ k2 =>
      have H := HA.out
      clear HA
      simp only [customsmade_Order.l1] at H
      by_cases c7 : (x6_2.length : Int) > 0
      ·
       rw [if_pos c7] at H
       have c7b0 : decide (0 < (x6_2.length : Int)) = true := decide_eq_true c7
       have c7b1 : decide (0 < x6_2.length) = true := decide_eq_true (by omega)
       clear c7
       replace H := Option.bind_eq_some_iff.mp H
       obtain ⟨⟨t958, t959⟩, A80, H⟩ := H
       replace H : (if 0 ≤ t958 then (if t958 < (x6_2.length : Int) then (if x7_2.length < 17592186044416 then ((some (([] : List Int) : List Int)).bind fun y964 => (if t958 ≤ (x6_2.length : Int) then ((some (x6_2.take (t958 : Int).toNat : List Int)).bind fun y967 => (if y964.length + y967.length < 17592186044416 then ((some (y964 ++ y967 : List Int)).bind fun y971 => (if 0 ≤ (wrap64 (t958 + 1)) then (if (wrap64 (t958 + 1)) ≤ (x6_2.length : Int) then ((some (x6_2.drop ((wrap64 (t958 + 1)) : Int).toNat : List Int)).bind fun y974 => (if y971.length + y974.length < 17592186044416 then (customsmade_Order.l1 k2 (y971 ++ y974) (x7_2 ++ [rd x6_2 t958]) l1 t959) else (none))) else (none)) else (none))) else (none))) else (none))) else (none)) else (none)) else (none)) = some r := H
       have A8 := Aside0.mk A80
       clear A80
       by_cases c9 : 0 ≤ t958
       ·
        rw [if_pos c9] at H
        have c9b0 : decide (0 ≤ t958) = true := decide_eq_true c9
        clear c9
        by_cases c10 : t958 < (x6_2.length : Int)
        ·
         rw [if_pos c10] at H
         have c10b0 : decide (t958 < (x6_2.length : Int)) = true := decide_eq_true c10
         clear c10
         by_cases c11 : x7_2.length < 17592186044416
         ·
          rw [if_pos c11] at H
          have LMc11 := Aside0.mk c11
          clear c11
          obtain ⟨y961, hy961⟩ : ∃ y_ : List Int, y_ = (x7_2 ++ [rd x6_2 t958]) := ⟨_, rfl⟩
          replace H : ((some (([] : List Int) : List Int)).bind fun y964 => (if t958 ≤ (x6_2.length : Int) then ((some (x6_2.take (t958 : Int).toNat : List Int)).bind fun y967 => (if y964.length + y967.length < 17592186044416 then ((some (y964 ++ y967 : List Int)).bind fun y971 => (if 0 ≤ (wrap64 (t958 + 1)) then (if (wrap64 (t958 + 1)) ≤ (x6_2.length : Int) then ((some (x6_2.drop ((wrap64 (t958 + 1)) : Int).toNat : List Int)).bind fun y974 => (if y971.length + y974.length < 17592186044416 then (customsmade_Order.l1 k2 (y971 ++ y974) y961 l1 t959) else (none))) else (none)) else (none))) else (none))) else (none))) = some r := by first | (rw [hy961]; with_reducible exact H) | (have H2_ := (Option.bind_some _ _).symm.trans H; rw [hy961]; with_reducible exact H2_) | (have H2_ := (Option.bind_some _ _).symm.trans H; with_reducible exact H2_) | with_reducible exact H | (rw [hy961]; exact H) | exact H
          have Ny961 := Aside0.mk hy961
          clear hy961
          obtain ⟨y964, hy964⟩ : ∃ y_ : List Int, y_ = (([] : List Int)) := ⟨_, rfl⟩
          replace H : (if t958 ≤ (x6_2.length : Int) then ((some (x6_2.take (t958 : Int).toNat : List Int)).bind fun y967 => (if y964.length + y967.length < 17592186044416 then ((some (y964 ++ y967 : List Int)).bind fun y971 => (if 0 ≤ (wrap64 (t958 + 1)) then (if (wrap64 (t958 + 1)) ≤ (x6_2.length : Int) then ((some (x6_2.drop ((wrap64 (t958 + 1)) : Int).toNat : List Int)).bind fun y974 => (if y971.length + y974.length < 17592186044416 then (customsmade_Order.l1 k2 (y971 ++ y974) y961 l1 t959) else (none))) else (none)) else (none))) else (none))) else (none)) = some r := by first | (rw [hy964]; with_reducible exact H) | (have H2_ := (Option.bind_some _ _).symm.trans H; rw [hy964]; with_reducible exact H2_) | (have H2_ := (Option.bind_some _ _).symm.trans H; with_reducible exact H2_) | with_reducible exact H | (rw [hy964]; exact H) | exact H
          have Ny964 := Aside0.mk hy964
          clear hy964
          have c12b0 := eq_true (of_decide_eq_true (by first | (with_reducible assumption) | assumption) : 0 ≤ t958)
          by_cases c13 : t958 ≤ (x6_2.length : Int)
          ·
           rw [if_pos c13] at H
           have c13b0 := eq_true c13
           have c13b1 : decide (t958 ≤ (x6_2.length : Int)) = true := decide_eq_true c13
           clear c13
           obtain ⟨y967, hy967⟩ : ∃ y_ : List Int, y_ = (x6_2.take (t958 : Int).toNat) := ⟨_, rfl⟩
           replace H : (if y964.length + y967.length < 17592186044416 then ((some (y964 ++ y967 : List Int)).bind fun y971 => (if 0 ≤ (wrap64 (t958 + 1)) then (if (wrap64 (t958 + 1)) ≤ (x6_2.length : Int) then ((some (x6_2.drop ((wrap64 (t958 + 1)) : Int).toNat : List Int)).bind fun y974 => (if y971.length + y974.length < 17592186044416 then (customsmade_Order.l1 k2 (y971 ++ y974) y961 l1 t959) else (none))) else (none)) else (none))) else (none)) = some r := by first | (rw [hy967]; with_reducible exact H) | (have H2_ := (Option.bind_some _ _).symm.trans H; rw [hy967]; with_reducible exact H2_) | (have H2_ := (Option.bind_some _ _).symm.trans H; with_reducible exact H2_) | with_reducible exact H | (rw [hy967]; exact H) | exact H
           have Ny967 := Aside0.mk hy967
           clear hy967
           by_cases c14 : y964.length + y967.length < 17592186044416
           ·
            rw [if_pos c14] at H
            have LMc14 := Aside0.mk c14
            clear c14
            obtain ⟨y971, hy971⟩ : ∃ y_ : List Int, y_ = (y964 ++ y967) := ⟨_, rfl⟩
            replace H : (if 0 ≤ (wrap64 (t958 + 1)) then (if (wrap64 (t958 + 1)) ≤ (x6_2.length : Int) then ((some (x6_2.drop ((wrap64 (t958 + 1)) : Int).toNat : List Int)).bind fun y974 => (if y971.length + y974.length < 17592186044416 then (customsmade_Order.l1 k2 (y971 ++ y974) y961 l1 t959) else (none))) else (none)) else (none)) = some r := by first | (rw [hy971]; with_reducible exact H) | (have H2_ := (Option.bind_some _ _).symm.trans H; rw [hy971]; with_reducible exact H2_) | (have H2_ := (Option.bind_some _ _).symm.trans H; with_reducible exact H2_) | with_reducible exact H | (rw [hy971]; exact H) | exact H
            have Ny971 := Aside0.mk hy971
            clear hy971
            obtain ⟨ji15, hji15⟩ : ∃ j_ : Int, (wrap64 (t958 + 1)) = j_ := ⟨_, rfl⟩
            replace H : (if 0 ≤ (ji15) then (if (ji15) ≤ (x6_2.length : Int) then ((some (x6_2.drop ((ji15) : Int).toNat : List Int)).bind fun y974 => (if y971.length + y974.length < 17592186044416 then (customsmade_Order.l1 k2 (y971 ++ y974) y961 l1 t959) else (none))) else (none)) else (none)) = some r := by first | (rw [hji15] at H; exact H) | (simp only [hji15] at H ⊢; exact H)
            (try rw [hji15] at A8)
            have hji15w : (IntKind.i64.wrap (t958 + 1)) = ji15 := (i64_w _).trans hji15
            by_cases c16 : 0 ≤ (ji15)
            ·
             rw [if_pos c16] at H
             have c16b0 := eq_true c16
             have c16b1 : decide (0 ≤ (ji15)) = true := decide_eq_true c16
             clear c16
             by_cases c17 : (ji15) ≤ (x6_2.length : Int)
             ·
              rw [if_pos c17] at H
              have c17b0 := eq_true c17
              have c17b1 : decide ((ji15) ≤ (x6_2.length : Int)) = true := decide_eq_true c17
              clear c17
              obtain ⟨y974, hy974⟩ : ∃ y_ : List Int, y_ = (x6_2.drop ((ji15) : Int).toNat) := ⟨_, rfl⟩
              replace H : (if y971.length + y974.length < 17592186044416 then (customsmade_Order.l1 k2 (y971 ++ y974) y961 l1 t959) else (none)) = some r := by first | (rw [hy974]; with_reducible exact H) | (have H2_ := (Option.bind_some _ _).symm.trans H; rw [hy974]; with_reducible exact H2_) | (have H2_ := (Option.bind_some _ _).symm.trans H; with_reducible exact H2_) | with_reducible exact H | (rw [hy974]; exact H) | exact H
              have Ny974 := Aside0.mk hy974
              clear hy974
              by_cases c18 : y971.length + y974.length < 17592186044416
              ·
               rw [if_pos c18] at H
               have LMc18 := Aside0.mk c18
               clear c18
               obtain ⟨y978, hy978⟩ : ∃ y_ : List Int, y_ = (y971 ++ y974) := ⟨_, rfl⟩
               replace H : (customsmade_Order.l1 k2 y978 y961 l1 t959) = some r := by first | (rw [hy978]; with_reducible exact H) | (have H2_ := (Option.bind_some _ _).symm.trans H; rw [hy978]; with_reducible exact H2_) | (have H2_ := (Option.bind_some _ _).symm.trans H; with_reducible exact H2_) | with_reducible exact H | (rw [hy978]; exact H) | exact H
               have Ny978 := Aside0.mk hy978
               clear hy978
               have H' := Aside0.mk H
               clear H
               obtain ⟨Ao19, co19, eo19⟩ := Kd.R_slice HO_6.out
               subst eo19
               try go_wp2_with (first | ((with_reducible refine gate_callee (f := 51) rfl ?_); refine goesL_ (some 28) rfl rfl Tryd.func51 (by kernel_rfl) rfl #[.pointer (some ⟨gb954, 0, none⟩), .int .i64 (x6_2.length : Int)] rfl (by (try simp only [List.map_toArray, List.map_cons, List.map_nil]); first | done | rfl | (simp only [List.length_drop, List.length_take]; rfl)) ?_; (with_reducible refine (customsmade_Source_Next.calls gb954 l1 x955001_2 (x6_2.length : Int) t958 t959 w _ ?side1 ?side2 A8.out).mono ?_); (case side1 => repeat (first | (with_reducible first | exact HI954.out | apply IsS76.alloc | apply IsS76.drewN | apply IsS76.drew | apply IsS76.set_1) | exact HI954.out)); (case side2 => repeat (first | (with_reducible first | exact HB.out | apply below_alloc | apply pw_below_drewN | apply below_drew1 | refine below_set ?_ (IsS76.ge HI954.out)) | exact HB.out)); rintro e w20 ⟨rfl, hi, hb, hk⟩; refine ⟨_, rfl, ?_⟩; have n0_ := Aside0.mk (Kd.R_mono (Kd.R_keep (IsS76.apart (show IsS76 w _ gb954 l1 x955001_2 from by repeat (first | (with_reducible first | exact HI954.out | apply IsS76.alloc | apply IsS76.drewN | apply IsS76.drew | apply IsS76.set_1) | exact HI954.out)) (by (with_reducible repeat (first | apply Kd.R_alloc | apply Kd.R_drewN | apply Kd.R_drew)); exact HO_6.out) (by decide)) hk (fun _ h => h.2)) (fun _ h => h.1)); have n1_ := Aside0.mk (Kd.R_mono (Kd.R_keep (IsS76.apart (show IsS76 w _ gb954 l1 x955001_2 from by repeat (first | (with_reducible first | exact HI954.out | apply IsS76.alloc | apply IsS76.drewN | apply IsS76.drew | apply IsS76.set_1) | exact HI954.out)) (by (with_reducible repeat (first | apply Kd.R_alloc | apply Kd.R_drewN | apply Kd.R_drew)); exact HO_7.out) (by decide)) hk (fun _ h => h.2)) (fun _ h => h.1)); have n2_ := Aside0.mk (hb); have n3_ := Aside0.mk (hi); clear HO_6; clear HO_7; clear HB; clear HI954; have HO_6 := n0_; have HO_7 := n1_; have HB := n2_; have HI954 := n3_; clear n0_ n1_ n2_ n3_; (try clear hb); (try clear hb2); (try clear hk); (try clear hi); have p960 : 0 ≤ (t958 : Int) := of_decide_eq_true (by first | (with_reducible assumption) | assumption); have q960 : t958 < (x6_2.length : Int) := of_decide_eq_true (by first | (with_reducible assumption) | assumption); obtain ⟨ad960, e960, hx960_0⟩ := Kd.at_int (Kd.R_reads' HO_6.out).2.2 t958 p960 q960; cases e960; replace p960 := eq_true p960; replace q960 := eq_true q960) | ((with_reducible refine gate_builtin (b := .append) (xs := #[.tmp 29, .tmp 34]) rfl ?_); at_builtin; refine Kd.R_append (Kd.int .i64) (w0 := w) w.heap.size rfl (.tmp 29) (.tmp 34) 25 3 (.int .i64 0) 8 rfl Tryd.underlying25 info3 rfl (by decide) (by omega) u7 x7_2 (rd x6_2 t958) [.int .i64 (rd x6_2 t958)] (fun k_ => some k_ ≠ (.slice (some ad960) x6_2.length co19 : Value).ownBlock) (fun _ => False) rfl rfl ?aP (fun _ hk => hk.elim) ?aF ?aO ?aB ?aS ?aL ?_; (case aP => exact rfl); (case aB => exact (by repeat (first | (with_reducible first | exact HB.out | apply below_alloc | apply pw_below_drewN | apply below_drew1 | refine below_set ?_ (IsS76.ge HI954.out)) | exact HB.out))); (case aF => exact (fun k_ hk => Kd.fresh' (Kd.R_lt (by (with_reducible repeat (first | apply Kd.R_alloc | apply Kd.R_drewN | apply Kd.R_drew)); exact HO_6.out)) k_ hk)); (case aO => exact (by (with_reducible repeat (first | apply Kd.R_alloc | apply Kd.R_drewN | apply Kd.R_drew)); exact HO_7.out)); (case aS => exact (below_size (by repeat (first | (with_reducible first | exact HB.out | apply below_alloc | apply pw_below_drewN | apply below_drew1 | refine below_set ?_ (IsS76.ge HI954.out)) | exact HB.out)))); (case aL => have := LMc11.out; omega); intro v962 w21 ho hb hg hat; rw [← Ny961.out] at ho; have n0_ := Aside0.mk (Kd.R_after (ok := (fun _ => True)) (by (with_reducible repeat (first | apply Kd.R_alloc | apply Kd.R_drewN | apply Kd.R_drew)); exact Kd.R_mono HO_6.out (fun _ hk => ⟨trivial, hk⟩)) hg hat); have n1_ := Aside0.mk (IsS76.grown (by repeat (first | (with_reducible first | exact HI954.out | apply IsS76.alloc | apply IsS76.drewN | apply IsS76.drew | apply IsS76.set_1) | exact HI954.out)) hg (IsS76.own_ne HI954.out HO_7.out (by decide))); have n2_ := Aside0.mk (hb); have n3_ := Aside0.mk (ho); clear HO_6; clear HI954; clear HB; clear HO_7; have HO_6 := n0_; have HI954 := n1_; have HB := n2_; have HO963 := n3_; clear n0_ n1_ n2_ n3_; clear ho hb hg hat))
               have n0_ := Aside0.mk (Kd.R_drew HO_6.out)
               have n1_ := Aside0.mk (Kd.R_drew HO963.out)
               have n2_ := Aside0.mk (IsS76.drew HI954.out)
               have n3_ := Aside0.mk (below_drew1 HB.out)
               clear HO_6
               clear HO963
               clear HI954
               clear HB
               have HO_6 := n0_
               have HO963 := n1_
               have HI954 := n2_
               have HB := n3_
               clear n0_ n1_ n2_ n3_
               have q23 : (t958 : Int) ≤ ((x6_2.length : Int) : Int) := of_decide_eq_true (by first | (with_reducible assumption) | assumption)
               obtain ⟨i023, hi023, _, hsz23, _⟩ := info_parts info3
               have hroom23 : x6_2.length ≤ co19 := (Kd.R_reads' HO_6.out).2.1
               have hC23 : Kd.C (Kd.int .i64) _ (some ad960) x6_2.length x6_2 := (Kd.R_reads' HO_6.out).2.2
               have hcut23 := cut_to (P := Tryd.prog) 25 3 .i64 Tryd.underlying25 hi023 (some ad960) x6_2.length co19 t958 (of_decide_eq_true (by first | (with_reducible assumption) | assumption)) q23 hroom23
               have hr23 := Kd.C_take (m := (t958 : Int).toNat) hC23 (by omega)
               have hy23 : y967.length = (t958 : Int).toNat := (by rw [Ny967.out, List.length_take]; omega)
               rw [← Ny967.out] at hr23
               rw [← hy23] at hcut23
               have HR970 := Aside0.mk hr23
               have HC970 := Aside0.mk (show y967.length ≤ co19 from by omega)
               clear hr23 hC23 hroom23 hi023 hsz23
               have KY23 := Aside0.mk hy23
               clear hy23
               have KL23 := Aside0.mk (show (t958 : Int).toNat ≤ x6_2.length from by omega)
               replace q23 := eq_true q23
               have q24 : ((ji15) : Int) ≤ ((x6_2.length : Int) : Int) := of_decide_eq_true (by first | (with_reducible assumption) | assumption)
               obtain ⟨i024, hi024, _, hsz24, _⟩ := info_parts info3
               have hroom24 : x6_2.length ≤ co19 := (Kd.R_reads' HO_6.out).2.1
               have hC24 : Kd.C (Kd.int .i64) _ (some ad960) x6_2.length x6_2 := (Kd.R_reads' HO_6.out).2.2
               have q024 : (0 : Int) ≤ ((ji15) : Int) := of_decide_eq_true (by first | (with_reducible assumption) | assumption)
               have hcut24 := cut_from (P := Tryd.prog) 25 3 .i64 Tryd.underlying25 hi024 1 hsz24 (some ad960) x6_2.length co19 (ji15) q024 q24
               have hr24 := Kd.C_drop (m := ((ji15) : Int).toNat) (c := co19) hC24 (by omega) hroom24
               obtain ⟨A24, hA24⟩ : ∃ A1, A1 = (if co19 = ((ji15) : Int).toNat then (some ad960) else ((some ad960) : Option Addr).map (·.add (((ji15) : Int).toNat * 1))) := ⟨_, rfl⟩
               obtain ⟨c24, hc24⟩ : ∃ c1, c1 = co19 - ((ji15) : Int).toNat := ⟨_, rfl⟩
               have hy24 : y974.length = x6_2.length - ((ji15) : Int).toNat := (by rw [Ny974.out, List.length_drop] <;> omega)
               rw [show (x6_2).drop ((ji15) : Int).toNat = y974 from Ny974.out.symm] at hr24
               replace hr24 : Kd.C (Kd.int .i64) _ A24 y974.length y974 := (by rw [hA24]; exact hr24)
               rw [← hy24, ← hA24, ← hc24] at hcut24
               have HR977 := Aside0.mk hr24
               have HC977 := Aside0.mk (show y974.length ≤ c24 from by rw [hy24, hc24]; exact Nat.sub_le_sub_right hroom24 _)
               clear hr24 hC24 hroom24 hi024 hsz24 hc24
               have KY24 := Aside0.mk hy24
               have KA24 := Aside0.mk hA24
               clear hy24 hA24
               have KL24 := Aside0.mk (show ((ji15) : Int).toNat ≤ x6_2.length from by omega)
               replace q24 := eq_true q24
               refine start_ (n := 11) (S := fun w' => True) (ds := []) #[false, false, false, false, false, false, false, false, false, false, false] (by kernel_rfl) rfl rfl trivial (fun hHeld => ?_); refine with_tabW customsmade_Order.tab10 customsmade_Order.bits10 (fun HT_ HW_ => ?_)
               generalize w21.drew = w22 at HO_6 HO963 HI954 HB HR970 HR977 hHeld ⊢
               refine pure_ (i := 1) (N := some 37) (v := ?_) (a' := ?_) #[false, true, false, false, false, false, false, false, false, false, false] rfl rfl (any_of HT_.out (by kernel_rfl)) (fun _ _ _ h => h) (Or.inl ⟨by rfl, ?_⟩) ?_ ?_
               rotate_left
               ·
                intro w'
                go_simp
                with_reducible rfl
               rotate_left
               ·
                simp only [Act.put, List.setIfInBounds_toArray, List.set_cons_zero, List.set_cons_succ, i64_w, i32_w]
                rfl
               refine pure_ (i := 2) (N := some 38) (v := ?_) (a' := ?_) #[false, true, true, false, false, false, false, false, false, false, false] rfl rfl (any_of HT_.out (by kernel_rfl)) (fun _ _ _ h => h) (Or.inl ⟨by rfl, ?_⟩) ?_ ?_
               rotate_left
               ·
                intro w'
                go_simp
                with_reducible rfl
               rotate_left
               ·
                simp only [Act.put, List.setIfInBounds_toArray, List.set_cons_zero, List.set_cons_succ, i64_w, i32_w]
                rfl
               refine pure_ (i := 3) (N := some 39) (v := ?_) (a' := ?_) #[false, true, true, true, false, false, false, false, false, false, false] rfl rfl (any_of HT_.out (by kernel_rfl)) (fun _ _ _ h => h) (Or.inl ⟨by rfl, ?_⟩) ?_ ?_
               rotate_left
               ·
                intro w'
                go_simp
                with_reducible rfl
               rotate_left
               ·
                simp only [Act.put, List.setIfInBounds_toArray, List.set_cons_zero, List.set_cons_succ, i64_w, i32_w]
                rfl
               refine pure_ (i := 5) (N := some 41) (v := ?_) (a' := ?_) #[false, true, true, true, false, true, false, false, false, false, false] rfl rfl (any_of HT_.out (by kernel_rfl)) (fun _ _ _ h => h) (Or.inl ⟨by rfl, ?_⟩) ?_ ?_
               rotate_left
               ·
                intro w'
                go_simp
                with_reducible rfl
               rotate_left
               ·
                simp only [Act.put, List.setIfInBounds_toArray, List.set_cons_zero, List.set_cons_succ, i64_w, i32_w]
                rfl
               refine pure_ (i := 6) (N := some 42) (v := ?_) (a' := ?_) #[false, true, true, true, false, true, true, false, false, false, false] rfl rfl (any_of HT_.out (by kernel_rfl)) (fun _ _ _ h => h) (Or.inl ⟨by rfl, ?_⟩) ?_ ?_
               rotate_left
               ·
                intro w'
                go_simp
                with_reducible rfl
               rotate_left
               ·
                simp only [Act.put, List.setIfInBounds_toArray, List.set_cons_zero, List.set_cons_succ, i64_w, i32_w]
                rfl
               refine pure_ (i := 7) (N := some 43) (v := ?_) (a' := ?_) #[false, true, true, true, false, true, true, true, false, false, false] rfl rfl (any_of HT_.out (by kernel_rfl)) (fun _ _ _ h => h) (Or.inl ⟨by rfl, ?_⟩) ?_ ?_
               rotate_left
               ·
                intro w'
                go_simp
                with_reducible rfl
               rotate_left
               ·
                simp only [Act.put, List.setIfInBounds_toArray, List.set_cons_zero, List.set_cons_succ, i64_w, i32_w]
                rfl
               refine pure_ (i := 8) (N := some 44) (v := ?_) (a' := ?_) #[false, true, true, true, false, true, true, true, true, false, false] rfl rfl (any_of HT_.out (by kernel_rfl)) (fun _ _ _ h => h) (Or.inl ⟨by rfl, ?_⟩) ?_ ?_
               rotate_left
               ·
                intro w'
                go_simp
                with_reducible rfl
               rotate_left
               ·
                simp only [Act.put, List.setIfInBounds_toArray, List.set_cons_zero, List.set_cons_succ, i64_w, i32_w]
                rfl
               refine one_ (i := 0) (N := some 36) #[true, true, true, true, false, true, true, true, true, false, false] rfl rfl (one_of HT_.out (by kernel_rfl)) (by decide) (fun K hK => ?_)
               refine Kd.R_lit_step (Kd.int .i64) _ 3 ?hg (N := 36) ?hd (xs := ([] : List Int)) (inner := []) (ok := fun _ => True) (okp := fun _ => True) ?hr ?hp (fun _ hk => hk) trivial (Below.refl _ _) (Nat.le_refl _) (by simp) ?_; (case hd => rfl); (case hg => rfl); (case hr => first | (go_simp; done) | (go_simp; rfl)); (case hp => exact (Reps.none _ _))
               intro v965 w25 ho26 hb hg_ hnew_
               clear hg_ hnew_
               (first | rw [← Ny964.out] at ho26 | (simp only [Int.reduceToNat] at ho26; rw [← Ny964.out] at ho26))
               have n0_ := Aside0.mk (Kd.R_elder' (by (with_reducible repeat (first | apply Kd.R_alloc | apply Kd.R_drewN | apply Kd.R_drew)); exact HO_6.out) (Kd.R_base ho26) hb)
               have n1_ := Aside0.mk (Kd.R_elder' (by (with_reducible repeat (first | apply Kd.R_alloc | apply Kd.R_drewN | apply Kd.R_drew)); exact HO963.out) (Kd.R_base ho26) hb)
               have n2_ := Aside0.mk (Kd.R_lower (Kd.R_new' (Kd.R_new' ho26 (Kd.R_lt (by (with_reducible repeat (first | apply Kd.R_alloc | apply Kd.R_drewN | apply Kd.R_drew)); exact HO_6.out))) (Kd.R_lt (by (with_reducible repeat (first | apply Kd.R_alloc | apply Kd.R_drewN | apply Kd.R_drew)); exact HO963.out))) (below_size (by repeat (first | (with_reducible first | exact HB.out | apply below_alloc | apply pw_below_drewN | apply below_drew1 | refine below_set ?_ (IsS76.ge HI954.out)) | exact HB.out))))
               have n3_ := Aside0.mk (IsS76.below (by repeat (first | (with_reducible first | exact HI954.out | apply IsS76.alloc | apply IsS76.drewN | apply IsS76.drew | apply IsS76.set_1) | exact HI954.out)) hb)
               have n4_ := Aside0.mk (Kd.C_below (by repeat (first | (with_reducible exact HR970.out) | (with_reducible refine Kd.C_alloc ?_ _) | (with_reducible refine Kd.C_drewN ?_ _) | (with_reducible refine Kd.C_drew ?_) | exact HR970.out)) hb)
               have n5_ := Aside0.mk (Kd.C_below (by repeat (first | (with_reducible exact HR977.out) | (with_reducible refine Kd.C_alloc ?_ _) | (with_reducible refine Kd.C_drewN ?_ _) | (with_reducible refine Kd.C_drew ?_) | exact HR977.out)) hb)
               have n6_ := Aside0.mk (below_step (by repeat (first | (with_reducible first | exact HB.out | apply below_alloc | apply pw_below_drewN | apply below_drew1 | refine below_set ?_ (IsS76.ge HI954.out)) | exact HB.out)) hb)
               clear HO_6
               clear HO963
               clear HI954
               clear HR970
               clear HR977
               clear HB
               have HO_6 := n0_
               have HO963 := n1_
               have HO966 := n2_
               have HI954 := n3_
               have HR970 := n4_
               have HR977 := n5_
               have HB := n6_
               clear n0_ n1_ n2_ n3_ n4_ n5_ n6_
               clear hb ho26
               refine hK.out _ _ trivial (fun hHeld => ?_)
               clear hK K
               refine norm_ (a' := ?_) ?_ ?_
               rotate_left
               ·
                show Act.put _ (some 36) _ = _
                simp only [Act.put, List.setIfInBounds_toArray, List.set_cons_zero, List.set_cons_succ, i64_w, i32_w]
                rfl
               refine one_ (i := 4) (N := some 40) #[true, true, true, true, true, true, true, true, true, false, false] rfl rfl (one_of HT_.out (by kernel_rfl)) (by decide) (fun K hK => ?_)
               refine Kd.R_append_rows_step (Kd.int .i64) (w0 := w) w.heap.size (by rfl) (.tmp 36) (.tmp 39) 25 3 (.int .i64 0) 8 rfl Tryd.underlying25 info3 rfl (by decide) (by omega) v965 y964 y967 _ _ _ (fun k_ => some k_ ≠ (.slice (some ad960) x6_2.length co19 : Value).ownBlock ∧ some k_ ≠ (v962 : Value).ownBlock) (fun _ => False) rfl rfl ?aO ?aR (fun _ _ h => h) (fun _ h => h.elim) ?aF ?aB ?aS ?aL ?_
               (case aR => repeat (first | exact (by repeat (first | (with_reducible exact HR970.out) | (with_reducible refine Kd.C_alloc ?_ _) | (with_reducible refine Kd.C_drewN ?_ _) | (with_reducible refine Kd.C_drew ?_) | exact HR970.out)) | (with_reducible refine Kd.C_alloc ?_ _) | (with_reducible refine Kd.C_drewN ?_ _) | (with_reducible refine Kd.C_drew ?_)))
               (case aB => exact (by repeat (first | (with_reducible first | exact HB.out | apply below_alloc | apply pw_below_drewN | apply below_drew1 | refine below_set ?_ (IsS76.ge HI954.out)) | exact HB.out)))
               (case aF => exact (fun k_ hk => ⟨Kd.fresh' (Kd.R_lt (by (with_reducible repeat (first | apply Kd.R_alloc | apply Kd.R_drewN | apply Kd.R_drew)); exact HO_6.out)) k_ hk, Kd.fresh' (Kd.R_lt (by (with_reducible repeat (first | apply Kd.R_alloc | apply Kd.R_drewN | apply Kd.R_drew)); exact HO963.out)) k_ hk⟩))
               (case aO => exact (by (with_reducible repeat (first | apply Kd.R_alloc | apply Kd.R_drewN | apply Kd.R_drew)); exact Kd.R_mono HO966.out (fun _ hk => ⟨hk.1.2, hk.2⟩)))
               (case aS => exact (below_size (by repeat (first | (with_reducible first | exact HB.out | apply below_alloc | apply pw_below_drewN | apply below_drew1 | refine below_set ?_ (IsS76.ge HI954.out)) | exact HB.out))))
               (case aL => have := LMc14.out; omega)
               intro v972 w27 ho hb hg hat
               rw [← Ny971.out] at ho
               have n0_ := Aside0.mk (Kd.R_after (ok := (fun k_ => some k_ ≠ (v962 : Value).ownBlock)) (by (with_reducible repeat (first | apply Kd.R_alloc | apply Kd.R_drewN | apply Kd.R_drew)); exact Kd.R_mono HO_6.out (fun _ hk => ⟨hk.1.2, hk.2⟩)) hg hat)
               have n1_ := Aside0.mk (IsS76.grown (by repeat (first | (with_reducible first | exact HI954.out | apply IsS76.alloc | apply IsS76.drewN | apply IsS76.drew | apply IsS76.set_1) | exact HI954.out)) hg (IsS76.own_ne HI954.out HO966.out (by decide)))
               have n2_ := Aside0.mk (Kd.R_after (ok := (fun k_ => some k_ ≠ (.slice (some ad960) x6_2.length co19 : Value).ownBlock)) (by (with_reducible repeat (first | apply Kd.R_alloc | apply Kd.R_drewN | apply Kd.R_drew)); exact HO963.out) hg hat)
               have n3_ := Aside0.mk (hb)
               have n4_ := Aside0.mk ((show Kd.C (Kd.int .i64) w27 (some ad960) y967.length y967 from by rw [Ny967.out]; exact Kd.C_take (m := (t958 : Int).toNat) ((Kd.R_reads' (Kd.R_after (ok := (fun k_ => some k_ ≠ (v962 : Value).ownBlock)) (by (with_reducible repeat (first | apply Kd.R_alloc | apply Kd.R_drewN | apply Kd.R_drew)); exact Kd.R_mono HO_6.out (fun _ hk => ⟨hk.1.2, hk.2⟩)) hg hat)).2.2) KL23.out))
               have n5_ := Aside0.mk ((show Kd.C (Kd.int .i64) w27 A24 y974.length y974 from by rw [Ny974.out, KA24.out]; exact Kd.C_drop (m := ((ji15) : Int).toNat) (c := co19) ((Kd.R_reads' (Kd.R_after (ok := (fun k_ => some k_ ≠ (v962 : Value).ownBlock)) (by (with_reducible repeat (first | apply Kd.R_alloc | apply Kd.R_drewN | apply Kd.R_drew)); exact Kd.R_mono HO_6.out (fun _ hk => ⟨hk.1.2, hk.2⟩)) hg hat)).2.2) KL24.out ((Kd.R_reads' (Kd.R_after (ok := (fun k_ => some k_ ≠ (v962 : Value).ownBlock)) (by (with_reducible repeat (first | apply Kd.R_alloc | apply Kd.R_drewN | apply Kd.R_drew)); exact Kd.R_mono HO_6.out (fun _ hk => ⟨hk.1.2, hk.2⟩)) hg hat)).2.1)))
               have n6_ := Aside0.mk (ho)
               clear HO_6
               clear HI954
               clear HO963
               clear HB
               clear HR970
               clear HR977
               clear HO966
               have HO_6 := n0_
               have HI954 := n1_
               have HO963 := n2_
               have HB := n3_
               have HR970 := n4_
               have HR977 := n5_
               have HO973 := n6_
               clear n0_ n1_ n2_ n3_ n4_ n5_ n6_
               clear ho hb hg hat
               refine hK.out _ _ trivial (fun hHeld => ?_)
               clear hK K
               refine norm_ (a' := ?_) ?_ ?_
               rotate_left
               ·
                show Act.put _ (some 40) _ = _
                simp only [Act.put, List.setIfInBounds_toArray, List.set_cons_zero, List.set_cons_succ, i64_w, i32_w]
                rfl
               refine one_ (i := 9) (N := some 45) #[true, true, true, true, true, true, true, true, true, true, false] rfl rfl (one_of HT_.out (by kernel_rfl)) (by decide) (fun K hK => ?_)
               refine Kd.R_append_rows_step (Kd.int .i64) (w0 := w) w.heap.size (by rfl) (.tmp 40) (.tmp 44) 25 3 (.int .i64 0) 8 rfl Tryd.underlying25 info3 rfl (by decide) (by omega) v972 y971 y974 _ _ _ (fun k_ => some k_ ≠ (.slice (some ad960) x6_2.length co19 : Value).ownBlock ∧ some k_ ≠ (v962 : Value).ownBlock) (fun _ => False) rfl rfl ?aO ?aR (fun _ _ h => h) (fun _ h => h.elim) ?aF ?aB ?aS ?aL ?_
               (case aR => repeat (first | exact (by repeat (first | (with_reducible exact HR977.out) | (with_reducible refine Kd.C_alloc ?_ _) | (with_reducible refine Kd.C_drewN ?_ _) | (with_reducible refine Kd.C_drew ?_) | exact HR977.out)) | (with_reducible refine Kd.C_alloc ?_ _) | (with_reducible refine Kd.C_drewN ?_ _) | (with_reducible refine Kd.C_drew ?_)))
               (case aB => exact (by repeat (first | (with_reducible first | exact HB.out | apply below_alloc | apply pw_below_drewN | apply below_drew1 | refine below_set ?_ (IsS76.ge HI954.out)) | exact HB.out)))
               (case aF => exact (fun k_ hk => ⟨Kd.fresh' (Kd.R_lt (by (with_reducible repeat (first | apply Kd.R_alloc | apply Kd.R_drewN | apply Kd.R_drew)); exact HO_6.out)) k_ hk, Kd.fresh' (Kd.R_lt (by (with_reducible repeat (first | apply Kd.R_alloc | apply Kd.R_drewN | apply Kd.R_drew)); exact HO963.out)) k_ hk⟩))
               (case aO => exact (by (with_reducible repeat (first | apply Kd.R_alloc | apply Kd.R_drewN | apply Kd.R_drew)); exact HO973.out))
               (case aS => exact (below_size (by repeat (first | (with_reducible first | exact HB.out | apply below_alloc | apply pw_below_drewN | apply below_drew1 | refine below_set ?_ (IsS76.ge HI954.out)) | exact HB.out))))
               (case aL => have := LMc18.out; omega)
               intro v979 w28 ho hb hg hat
               rw [← Ny978.out] at ho
               have n0_ := Aside0.mk (Kd.R_after (ok := (fun k_ => some k_ ≠ (v962 : Value).ownBlock)) (by (with_reducible repeat (first | apply Kd.R_alloc | apply Kd.R_drewN | apply Kd.R_drew)); exact HO_6.out) hg hat)
               have n1_ := Aside0.mk (IsS76.grown (by repeat (first | (with_reducible first | exact HI954.out | apply IsS76.alloc | apply IsS76.drewN | apply IsS76.drew | apply IsS76.set_1) | exact HI954.out)) hg (IsS76.own_ne HI954.out HO973.out (by decide)))
               have n2_ := Aside0.mk (Kd.R_after (ok := (fun k_ => some k_ ≠ (.slice (some ad960) x6_2.length co19 : Value).ownBlock)) (by (with_reducible repeat (first | apply Kd.R_alloc | apply Kd.R_drewN | apply Kd.R_drew)); exact HO963.out) hg hat)
               have n3_ := Aside0.mk (hb)
               have n4_ := Aside0.mk ((show Kd.C (Kd.int .i64) w28 (some ad960) y967.length y967 from by rw [Ny967.out]; exact Kd.C_take (m := (t958 : Int).toNat) ((Kd.R_reads' (Kd.R_after (ok := (fun k_ => some k_ ≠ (v962 : Value).ownBlock)) (by (with_reducible repeat (first | apply Kd.R_alloc | apply Kd.R_drewN | apply Kd.R_drew)); exact HO_6.out) hg hat)).2.2) KL23.out))
               have n5_ := Aside0.mk ((show Kd.C (Kd.int .i64) w28 A24 y974.length y974 from by rw [Ny974.out, KA24.out]; exact Kd.C_drop (m := ((ji15) : Int).toNat) (c := co19) ((Kd.R_reads' (Kd.R_after (ok := (fun k_ => some k_ ≠ (v962 : Value).ownBlock)) (by (with_reducible repeat (first | apply Kd.R_alloc | apply Kd.R_drewN | apply Kd.R_drew)); exact HO_6.out) hg hat)).2.2) KL24.out ((Kd.R_reads' (Kd.R_after (ok := (fun k_ => some k_ ≠ (v962 : Value).ownBlock)) (by (with_reducible repeat (first | apply Kd.R_alloc | apply Kd.R_drewN | apply Kd.R_drew)); exact HO_6.out) hg hat)).2.1)))
               have n6_ := Aside0.mk (ho)
               clear HO_6
               clear HI954
               clear HO963
               clear HB
               clear HR970
               clear HR977
               clear HO973
               have HO_6 := n0_
               have HI954 := n1_
               have HO963 := n2_
               have HB := n3_
               have HR970 := n4_
               have HR977 := n5_
               have HO980 := n6_
               clear n0_ n1_ n2_ n3_ n4_ n5_ n6_
               clear ho hb hg hat
               refine hK.out _ _ trivial (fun hHeld => ?_)
               clear hK K
               refine norm_ (a' := ?_) ?_ ?_
               rotate_left
               ·
                show Act.put _ (some 45) _ = _
                simp only [Act.put, List.setIfInBounds_toArray, List.set_cons_zero, List.set_cons_succ, i64_w, i32_w]
                rfl
               refine pure_ (i := 10) (N := some 6) (v := ?_) (a' := ?_) #[true, true, true, true, true, true, true, true, true, true, true] rfl rfl (any_of HT_.out (by kernel_rfl)) (fun _ _ _ h => h) (Or.inl ⟨by rfl, ?_⟩) ?_ ?_
               rotate_left
               ·
                intro w'
                go_simp
                with_reducible rfl
               rotate_left
               ·
                simp only [Act.put, List.setIfInBounds_toArray, List.set_cons_zero, List.set_cons_succ, i64_w, i32_w]
                rfl
               refine done_ (done_of HT_.out (by kernel_rfl)) ?_
               try go_wp2
               go_roundg k2
               case measure => have := HK1.out; have := HK2.out; omega
               case rel => exact ⟨(y978), (y961), (t959), H', ⟨by have := HK1.out; have := HK2.out; omega⟩, ⟨by (with_reducible repeat (first | apply Kd.R_alloc | apply Kd.R_drewN | apply Kd.R_drew)); exact Kd.R_mono HO980.out (fun _ hk => hk.2)⟩, ⟨by (with_reducible repeat (first | apply Kd.R_alloc | apply Kd.R_drewN | apply Kd.R_drew)); exact Kd.R_mono HO963.out (fun _ hk => hk.2)⟩, ⟨by repeat (first | (with_reducible first | exact HI954.out | apply IsS76.alloc | apply IsS76.drewN | apply IsS76.drew | apply IsS76.set_1) | exact HI954.out)⟩, ⟨by repeat (first | (with_reducible first | exact HB.out | apply below_alloc | apply pw_below_drewN | apply below_drew1 | refine below_set ?_ (IsS76.ge HI954.out)) | exact HB.out)⟩⟩
              ·
               rw [if_neg c18] at H
               exact absurd H (by simp)
             ·
              rw [if_neg c17] at H
              exact absurd H (by simp)
            ·
             rw [if_neg c16] at H
             exact absurd H (by simp)
           ·
            rw [if_neg c14] at H
            exact absurd H (by simp)
          ·
           rw [if_neg c13] at H
           exact absurd H (by simp)
         ·
          rw [if_neg c11] at H
          exact absurd H (by simp)
        ·
         rw [if_neg c10] at H
         exact absurd H (by simp)
       ·
        rw [if_neg c9] at H
        exact absurd H (by simp)
      ·
       rw [if_neg c7] at H
       have c7b0 : decide (0 < (x6_2.length : Int)) = false := decide_eq_false c7
       have c7b1 : decide (0 < x6_2.length) = false := decide_eq_false (by omega)
       clear c7
       obtain rfl := Option.some.inj H
       obtain ⟨Ao29, co29, eo29⟩ := Kd.R_slice HO_6.out
       subst eo29
       go_wp2
       go_ret
       exact ⟨_, by first | rfl | (simp [errW_none, errW_some] <;> rfl) | (simp [*, errW_none, errW_some] <;> rfl), by (with_reducible repeat (first | apply Kd.R_alloc | apply Kd.R_drewN | apply Kd.R_drew)); exact Kd.R_mono HO_7.out (fun _ hk => trivial), by repeat (first | (with_reducible first | exact HB.out | apply below_alloc | apply pw_below_drewN | apply below_drew1 | refine below_set ?_ (IsS76.ge HI954.out)) | exact HB.out)⟩

def customslaw35_TransitBelief.l0 : Nat → List Int → List (S53) → List Int → List (S53) → Int → Option (Bool)
 | 0, _, _, _, _, _ => none
 | k + 1, x1, x7, x8, x9, x10 => if x10 < (x8.length : Int) then (if 0 ≤ x10 then (if 0 ≤ (rd x8 x10) then (if (rd x8 x10) < (x7.length : Int) then (if x9.length < 3518437208883 then (customslaw35_TransitBelief.l0 k x1 x7 x8 (x9 ++ [(⟨(rd_T53 x7 (rd x8 x10)).f0, (rd_T53 x7 (rd x8 x10)).f1, (rd_T53 x7 (rd x8 x10)).f2, (rd_T53 x7 (rd x8 x10)).f3, (rd_T53 x7 (rd x8 x10)).f4⟩ : S53)]) (wrap64 (x10 + 1))) else (none)) else (none)) else (none)) else (none)) else (if x9.length + x7.length < 3518437208883 then ((customsmade_Cut.f x1 8).bind fun t995 => ((transit_Seals.f t995 1 x7).bind fun t997 => ((transit_Seals.f t995 1 (x9 ++ x7)).bind fun t1000 => ((transit_Compare.f t997 t1000).bind fun bt1003 => ((customsref33_SameInts.f k t997 t1000).bind fun t1009 => (if t1009 = true then (if (bt1003.1.length : Int) = 0 then (if (bt1003.2.length : Int) = 0 then ((customslaw35_awake.f).bind fun t1010 => (some t1010)) else (some false)) else (some false)) else (some false))))))) else (none))
def customslaw35_TransitBelief.f (k : Nat) (l0 : List Int) (l1 : List Int) (l2 : List Int) : Option (Bool) := (customslaw35_incidents.f k l0).bind fun t981 => ((customsmade_Order.f k (t981.length : Int) l2).bind fun t984 => (customslaw35_TransitBelief.l0 k l1 t981 t984 ([] : List (S53)) 0))
set_option maxHeartbeats 8000000 in
set_option maxRecDepth 100000 in
theorem customslaw35_TransitBelief.calls (k : Nat) (A0 : Option Addr) (c0 : Nat) (l0 : List Int) (A1 : Option Addr) (c1 : Nat) (l1 : List Int) (A2 : Option Addr) (c2 : Nat) (l2 : List Int) (r : Bool) (w : World) (hr0 : Kd.C (Kd.int .i64) w A0 l0.length l0) (hc0 : l0.length ≤ c0) (hr1 : Kd.C (Kd.int .i64) w A1 l1.length l1) (hc1 : l1.length ≤ c1) (hr2 : Kd.C (Kd.int .i64) w A2 l2.length l2) (hc2 : l2.length ≤ c2) (hG_changes : GL_changes w) (h : customslaw35_TransitBelief.f k l0 l1 l2 = some r) :
  Calls Tryd.prog 6 #[.slice A0 l0.length c0, .slice A1 l1.length c1, .slice A2 l2.length c2] w fun e w' => e = .returned (.bool r) ∧ Below w.heap.size w w' := by
 have hu53 := Tryd.underlying53
 have HR0 := Aside0.mk hr0
 have HC0 := Aside0.mk hc0
 clear hr0 hc0
 have HR1 := Aside0.mk hr1
 have HC1 := Aside0.mk hc1
 clear hr1 hc1
 have HR2 := Aside0.mk hr2
 have HC2 := Aside0.mk hc2
 clear hr2 hc2
 have HG_changes := Aside0.mk hG_changes
 clear hG_changes
 have HB := Aside0.mk (Below.refl w.heap.size w)
 have H : ((customslaw35_incidents.f k l0).bind fun t981 => ((customsmade_Order.f k (t981.length : Int) l2).bind fun t984 => (customslaw35_TransitBelief.l0 k l1 t981 t984 ([] : List (S53)) 0))) = some r := h
 clear h
 replace H := Option.bind_eq_some_iff.mp H
 obtain ⟨t981, A40, H⟩ := H
 replace H : ((customsmade_Order.f k (t981.length : Int) l2).bind fun t984 => (customslaw35_TransitBelief.l0 k l1 t981 t984 ([] : List (S53)) 0)) = some r := H
 have A4 := Aside0.mk A40
 clear A40
 replace H := Option.bind_eq_some_iff.mp H
 obtain ⟨t984, A50, H⟩ := H
 replace H : (customslaw35_TransitBelief.l0 k l1 t981 t984 ([] : List (S53)) 0) = some r := H
 have A5 := Aside0.mk A50
 clear A50
 have H' := Aside0.mk H
 clear H
 go_enter Tryd.func6, Tryd.ntmps6
 go_wp2_with (first | ((with_reducible refine gate_callee (f := 19) rfl ?_); refine goesL_ (some 16) rfl rfl Tryd.func19 (by kernel_rfl) rfl #[.slice A0 l0.length c0] rfl (by (try simp only [List.map_toArray, List.map_cons, List.map_nil]); first | done | rfl | (simp only [List.length_drop, List.length_take]; rfl)) ?_; (with_reducible refine (customslaw35_incidents.calls k _ _ l0 t981 _ ?side1 ?side2 A4.out).mono ?_); (case side1 => repeat (first | exact HR0.out | (with_reducible refine Kd.C_alloc ?_ _) | (with_reducible refine Kd.C_drewN ?_ _) | (with_reducible refine Kd.C_drew ?_))); (case side2 => exact HC0.out); rintro e w6 ⟨v982, rfl, ho0, hb⟩; refine ⟨_, rfl, ?_⟩; have n0_ := Aside0.mk (Kd.R_lower ho0 (below_size (by repeat (first | (with_reducible first | exact HB.out | apply below_alloc | apply pw_below_drewN | apply below_drew1) | exact HB.out)))); have n1_ := Aside0.mk (below_step (by repeat (first | (with_reducible first | exact HB.out | apply below_alloc | apply pw_below_drewN | apply below_drew1) | exact HB.out)) hb); clear HB; have HO983 := n0_; have HB := n1_; clear n0_ n1_; (try clear hb); (try clear hb2); (try clear hk); (try clear hi); (try clear ho0); obtain ⟨Ao7, co7, eo7⟩ := Kd.R_slice HO983.out; subst eo7) | ((with_reducible refine gate_callee (f := 25) rfl ?_); refine goesL_ (some 20) rfl rfl Tryd.func25 (by kernel_rfl) rfl #[.int .i64 (t981.length : Int), .slice A2 l2.length c2] rfl (by (try simp only [List.map_toArray, List.map_cons, List.map_nil]); first | done | rfl | (simp only [List.length_drop, List.length_take]; rfl)) ?_; (with_reducible refine (customsmade_Order.calls k (t981.length : Int) _ _ l2 t984 _ ?side1 ?side2 A5.out).mono ?_); (case side1 => repeat (first | exact (Kd.C_below HR2.out HB.out) | (with_reducible refine Kd.C_alloc ?_ _) | (with_reducible refine Kd.C_drewN ?_ _) | (with_reducible refine Kd.C_drew ?_))); (case side2 => exact HC2.out); rintro e w8 ⟨v985, rfl, ho0, hb⟩; refine ⟨_, rfl, ?_⟩; have n0_ := Aside0.mk (Kd.R_below (by (with_reducible repeat (first | apply Kd.R_alloc | apply Kd.R_drewN | apply Kd.R_drew)); exact HO983.out) hb); have n1_ := Aside0.mk (Kd.R_lower ho0 (below_size (by repeat (first | (with_reducible first | exact HB.out | apply below_alloc | apply pw_below_drewN | apply below_drew1) | exact HB.out)))); have n2_ := Aside0.mk (below_step (by repeat (first | (with_reducible first | exact HB.out | apply below_alloc | apply pw_below_drewN | apply below_drew1) | exact HB.out)) hb); clear HO983; clear HB; have HO983 := n0_; have HO986 := n1_; have HB := n2_; clear n0_ n1_ n2_; (try clear hb); (try clear hb2); (try clear hk); (try clear hi); (try clear ho0)))
 go_loopg [9, 10] k (fun kq v9 v10 w' => ∃ (x9_1 : List (S53)) (x10_1 : Int), v10 = .int .i64 x10_1 ∧ Aside0 (customslaw35_TransitBelief.l0 kq l1 t981 t984 x9_1 x10_1 = some r) ∧ Aside0 (kq ≤ k) ∧ Aside0 (Kd.R k53 53 w' w.heap.size (fun k_ => some k_ ≠ (v9 : Value).ownBlock) (.slice Ao7 t981.length co7) t981) ∧ Aside0 (Kd.R (Kd.int .i64) 3 w' w.heap.size (fun _ => True) v985 t984) ∧ Aside0 (Kd.R k53 53 w' w.heap.size (fun k_ => some k_ ≠ ((.slice Ao7 t981.length co7) : Value).ownBlock) v9 x9_1) ∧ Aside0 (Below w.heap.size w w'))
 case atStart => exact ⟨(([] : List (S53))), (0), (by first | rfl | (simp; done) | (simp [*]; done)), H', ⟨Nat.le_refl _⟩, ⟨by (with_reducible repeat (first | apply Kd.R_alloc | apply Kd.R_drewN | apply Kd.R_drew)); exact Kd.R_mono HO983.out (fun _ hk => (by simp [Value.ownBlock]))⟩, ⟨by (with_reducible repeat (first | apply Kd.R_alloc | apply Kd.R_drewN | apply Kd.R_drew)); exact HO986.out⟩, ⟨by first | exact Kd.R_nil _ _ _ _ _ | exact Kd.N_nil _ _ _ _ _ | exact Kd.V_nil _ _ _ _ _ | exact Kd.Q_nil _ _ _ _ _ | exact Kd.S_nil _ _ _ _ _⟩, ⟨by repeat (first | (with_reducible first | exact HB.out | apply below_alloc | apply pw_below_drewN | apply below_drew1) | exact HB.out)⟩⟩
 case round =>
  clear H'
  try clear c1
  try clear c2
  try clear p2
  try clear c6
  obtain ⟨x9_1, x10_1, rfl, HA, HK1, HO_7, HO_8, HO_9, HB⟩ := hrel
  cases gk with
  | zero => exact absurd HA.out (by simp [customslaw35_TransitBelief.l0])
  | succ k1 =>
   have H := HA.out
   clear HA
   simp only [customslaw35_TransitBelief.l0] at H
   by_cases c9 : x10_1 < (t984.length : Int)
   ·
    rw [if_pos c9] at H
    have c9b0 : decide (x10_1 < (t984.length : Int)) = true := decide_eq_true c9
    clear c9
    by_cases c10 : 0 ≤ x10_1
    ·
     rw [if_pos c10] at H
     have c10b0 : decide (0 ≤ x10_1) = true := decide_eq_true c10
     clear c10
     by_cases c11 : 0 ≤ (rd t984 x10_1)
     ·
      rw [if_pos c11] at H
      have c11b0 : decide (0 ≤ (rd t984 x10_1)) = true := decide_eq_true c11
      clear c11
      by_cases c12 : (rd t984 x10_1) < (t981.length : Int)
      ·
       rw [if_pos c12] at H
       have c12b0 : decide ((rd t984 x10_1) < (t981.length : Int)) = true := decide_eq_true c12
       clear c12
       by_cases c13 : x9_1.length < 3518437208883
       ·
        rw [if_pos c13] at H
        have LMc13 := Aside0.mk c13
        clear c13
        obtain ⟨y989, hy989⟩ : ∃ y_ : List (S53), y_ = (x9_1 ++ [(⟨(rd_T53 t981 (rd t984 x10_1)).f0, (rd_T53 t981 (rd t984 x10_1)).f1, (rd_T53 t981 (rd t984 x10_1)).f2, (rd_T53 t981 (rd t984 x10_1)).f3, (rd_T53 t981 (rd t984 x10_1)).f4⟩ : S53)]) := ⟨_, rfl⟩
        replace H : (customslaw35_TransitBelief.l0 k1 l1 t981 t984 y989 (wrap64 (x10_1 + 1))) = some r := by first | (rw [hy989]; with_reducible exact H) | (have H2_ := (Option.bind_some _ _).symm.trans H; rw [hy989]; with_reducible exact H2_) | (have H2_ := (Option.bind_some _ _).symm.trans H; with_reducible exact H2_) | with_reducible exact H | (rw [hy989]; exact H) | exact H
        have Ny989 := Aside0.mk hy989
        clear hy989
        have H' := Aside0.mk H
        clear H
        obtain ⟨Ao14, co14, eo14⟩ := Kd.R_slice HO_8.out
        subst eo14
        have p987 : 0 ≤ (x10_1 : Int) := of_decide_eq_true (by first | (with_reducible assumption) | assumption)
        have q987 : x10_1 < (t984.length : Int) := of_decide_eq_true (by first | (with_reducible assumption) | assumption)
        obtain ⟨ad987, e987, hx987_0⟩ := Kd.at_int (Kd.R_reads' HO_8.out).2.2 x10_1 p987 q987
        cases e987
        replace p987 := eq_true p987
        replace q987 := eq_true q987
        have p988 : 0 ≤ ((rd t984 x10_1) : Int) := of_decide_eq_true (by first | (with_reducible assumption) | assumption)
        have q988 : (rd t984 x10_1) < (t981.length : Int) := of_decide_eq_true (by first | (with_reducible assumption) | assumption)
        obtain ⟨ad988, e988, hx988_0, hx988_1, hx988_2, hx988_3, hx988_4⟩ := at_T53 (Kd.R_reads' HO_7.out).2.2 (rd t984 x10_1) p988 q988
        cases e988
        replace p988 := eq_true p988
        replace q988 := eq_true q988
        go_wp2_with (first | ((with_reducible refine gate_builtin (b := .append) (xs := #[.tmp 27, .tmp 35]) rfl ?_); (try (refine gate_guard (by rfl) ?_; dsimp only)); at_builtin; refine Kd.R_append k53 (w0 := w) w.heap.size rfl (.tmp 27) (.tmp 35) 44 53 (.agg #[(.int .i64 0), (.int .i64 0), (.int .i64 0), (.int .i64 0), (.int .i64 0)]) 40 rfl Tryd.underlying44 info53 rfl (by decide) (by omega) u9 x9_1 (⟨(rd_T53 t981 (rd t984 x10_1)).f0, (rd_T53 t981 (rd t984 x10_1)).f1, (rd_T53 t981 (rd t984 x10_1)).f2, (rd_T53 t981 (rd t984 x10_1)).f3, (rd_T53 t981 (rd t984 x10_1)).f4⟩ : S53) [.int .i64 ((rd_T53 t981 (rd t984 x10_1)).f0), .int .i64 ((rd_T53 t981 (rd t984 x10_1)).f1), .int .i64 ((rd_T53 t981 (rd t984 x10_1)).f2), .int .i64 ((rd_T53 t981 (rd t984 x10_1)).f3), .int .i64 ((rd_T53 t981 (rd t984 x10_1)).f4)] (fun k_ => some k_ ≠ (.slice (some ad988) t981.length co7 : Value).ownBlock) (fun _ => False) rfl rfl ?aP (fun _ hk => hk.elim) ?aF ?aO ?aB ?aS ?aL ?_; (case aP => exact k53_mkM _ _ _ (⟨(rd_T53 t981 (rd t984 x10_1)).f0, (rd_T53 t981 (rd t984 x10_1)).f1, (rd_T53 t981 (rd t984 x10_1)).f2, (rd_T53 t981 (rd t984 x10_1)).f3, (rd_T53 t981 (rd t984 x10_1)).f4⟩ : S53)); (case aB => exact (by repeat (first | (with_reducible first | exact HB.out | apply below_alloc | apply pw_below_drewN | apply below_drew1) | exact HB.out))); (case aF => exact (fun k_ hk => Kd.fresh' (Kd.R_lt (by (with_reducible repeat (first | apply Kd.R_alloc | apply Kd.R_drewN | apply Kd.R_drew)); exact HO_7.out)) k_ hk)); (case aO => exact (by (with_reducible repeat (first | apply Kd.R_alloc | apply Kd.R_drewN | apply Kd.R_drew)); exact HO_9.out)); (case aS => exact (below_size (by repeat (first | (with_reducible first | exact HB.out | apply below_alloc | apply pw_below_drewN | apply below_drew1) | exact HB.out)))); (case aL => have := LMc13.out; omega); intro v990 w15 ho hb hg hat; rw [← Ny989.out] at ho; have n0_ := Aside0.mk (Kd.R_after (ok := (fun _ => True)) (by (with_reducible repeat (first | apply Kd.R_alloc | apply Kd.R_drewN | apply Kd.R_drew)); exact Kd.R_mono HO_7.out (fun _ hk => ⟨trivial, hk⟩)) hg hat); have n1_ := Aside0.mk (Kd.R_over' (by (with_reducible repeat (first | apply Kd.R_alloc | apply Kd.R_drewN | apply Kd.R_drew)); exact HO_8.out) (Kd.R_typed (by (with_reducible repeat (first | apply Kd.R_alloc | apply Kd.R_drewN | apply Kd.R_drew)); exact HO_9.out)) (by decide) hg); have n2_ := Aside0.mk (hb); have n3_ := Aside0.mk (ho); clear HO_7; clear HO_8; clear HB; clear HO_9; have HO_7 := n0_; have HO_8 := n1_; have HB := n2_; have HO991 := n3_; clear n0_ n1_ n2_ n3_; clear ho hb hg hat))
        go_roundg k1
        case measure => have := HK1.out; omega
        case rel => exact ⟨(y989), (wrap64 (x10_1 + 1)), (by first | rfl | (simp; done) | (simp [*]; done)), H', ⟨by have := HK1.out; omega⟩, ⟨by (with_reducible repeat (first | apply Kd.R_alloc | apply Kd.R_drewN | apply Kd.R_drew)); exact Kd.R_mono HO_7.out (fun _ hk => hk.2)⟩, ⟨by (with_reducible repeat (first | apply Kd.R_alloc | apply Kd.R_drewN | apply Kd.R_drew)); exact HO_8.out⟩, ⟨by (with_reducible repeat (first | apply Kd.R_alloc | apply Kd.R_drewN | apply Kd.R_drew)); exact HO991.out⟩, ⟨by repeat (first | (with_reducible first | exact HB.out | apply below_alloc | apply pw_below_drewN | apply below_drew1) | exact HB.out)⟩⟩
       ·
        rw [if_neg c13] at H
        exact absurd H (by simp)
      ·
       rw [if_neg c12] at H
       exact absurd H (by simp)
     ·
      rw [if_neg c11] at H
      exact absurd H (by simp)
    ·
     rw [if_neg c10] at H
     exact absurd H (by simp)
   ·
    rw [if_neg c9] at H
    have c9b0 : decide (x10_1 < (t984.length : Int)) = false := decide_eq_false c9
    clear c9
    by_cases c16 : x9_1.length + t981.length < 3518437208883
    ·
     rw [if_pos c16] at H
     have LMc16 := Aside0.mk c16
     clear c16
     obtain ⟨y992, hy992⟩ : ∃ y_ : List (S53), y_ = (x9_1 ++ t981) := ⟨_, rfl⟩
     replace H : ((customsmade_Cut.f l1 8).bind fun t995 => ((transit_Seals.f t995 1 t981).bind fun t997 => ((transit_Seals.f t995 1 y992).bind fun t1000 => ((transit_Compare.f t997 t1000).bind fun bt1003 => ((customsref33_SameInts.f k1 t997 t1000).bind fun t1009 => (if t1009 = true then (if (bt1003.1.length : Int) = 0 then (if (bt1003.2.length : Int) = 0 then ((customslaw35_awake.f).bind fun t1010 => (some t1010)) else (some false)) else (some false)) else (some false))))))) = some r := by first | (rw [hy992]; with_reducible exact H) | (have H2_ := (Option.bind_some _ _).symm.trans H; rw [hy992]; with_reducible exact H2_) | (have H2_ := (Option.bind_some _ _).symm.trans H; with_reducible exact H2_) | with_reducible exact H | (rw [hy992]; exact H) | exact H
     have Ny992 := Aside0.mk hy992
     clear hy992
     replace H := Option.bind_eq_some_iff.mp H
     obtain ⟨t995, A170, H⟩ := H
     replace H : ((transit_Seals.f t995 1 t981).bind fun t997 => ((transit_Seals.f t995 1 y992).bind fun t1000 => ((transit_Compare.f t997 t1000).bind fun bt1003 => ((customsref33_SameInts.f k1 t997 t1000).bind fun t1009 => (if t1009 = true then (if (bt1003.1.length : Int) = 0 then (if (bt1003.2.length : Int) = 0 then ((customslaw35_awake.f).bind fun t1010 => (some t1010)) else (some false)) else (some false)) else (some false)))))) = some r := H
     have A17 := Aside0.mk A170
     clear A170
     replace H := Option.bind_eq_some_iff.mp H
     obtain ⟨t997, A180, H⟩ := H
     replace H : ((transit_Seals.f t995 1 y992).bind fun t1000 => ((transit_Compare.f t997 t1000).bind fun bt1003 => ((customsref33_SameInts.f k1 t997 t1000).bind fun t1009 => (if t1009 = true then (if (bt1003.1.length : Int) = 0 then (if (bt1003.2.length : Int) = 0 then ((customslaw35_awake.f).bind fun t1010 => (some t1010)) else (some false)) else (some false)) else (some false))))) = some r := H
     have A18 := Aside0.mk A180
     clear A180
     replace H := Option.bind_eq_some_iff.mp H
     obtain ⟨t1000, A190, H⟩ := H
     replace H : ((transit_Compare.f t997 t1000).bind fun bt1003 => ((customsref33_SameInts.f k1 t997 t1000).bind fun t1009 => (if t1009 = true then (if (bt1003.1.length : Int) = 0 then (if (bt1003.2.length : Int) = 0 then ((customslaw35_awake.f).bind fun t1010 => (some t1010)) else (some false)) else (some false)) else (some false)))) = some r := H
     have A19 := Aside0.mk A190
     clear A190
     replace H := Option.bind_eq_some_iff.mp H
     obtain ⟨⟨t1003, t1004⟩, A200, H⟩ := H
     replace H : ((customsref33_SameInts.f k1 t997 t1000).bind fun t1009 => (if t1009 = true then (if (t1003.length : Int) = 0 then (if (t1004.length : Int) = 0 then ((customslaw35_awake.f).bind fun t1010 => (some t1010)) else (some false)) else (some false)) else (some false))) = some r := H
     have A20 := Aside0.mk A200
     clear A200
     replace H := Option.bind_eq_some_iff.mp H
     obtain ⟨t1009, A210, H⟩ := H
     replace H : (if t1009 = true then (if (t1003.length : Int) = 0 then (if (t1004.length : Int) = 0 then ((customslaw35_awake.f).bind fun t1010 => (some t1010)) else (some false)) else (some false)) else (some false)) = some r := H
     have A21 := Aside0.mk A210
     clear A210
     by_cases c22 : t1009 = true
     ·
      subst c22
      have H1 : (if (t1003.length : Int) = 0 then (if (t1004.length : Int) = 0 then ((customslaw35_awake.f).bind fun t1010 => (some t1010)) else (some false)) else (some false)) = some r := by rw [if_pos rfl] at H; exact H
      clear H
      have H := H1
      clear H1
      by_cases c23 : (t1003.length : Int) = 0
      ·
       rw [if_pos c23] at H
       have c23b0 : ((t1003.length : Int) == 0) = true := beq_iff_eq.mpr c23
       have c23b1 : ((t1003.length : Int) != 0) = false := bne_eq_false_iff_eq.mpr c23
       clear c23
       by_cases c24 : (t1004.length : Int) = 0
       ·
        rw [if_pos c24] at H
        have c24b0 : ((t1004.length : Int) == 0) = true := beq_iff_eq.mpr c24
        have c24b1 : ((t1004.length : Int) != 0) = false := bne_eq_false_iff_eq.mpr c24
        clear c24
        replace H := Option.bind_eq_some_iff.mp H
        obtain ⟨t1010, A250, H⟩ := H
        replace H : (some t1010) = some r := H
        have A25 := Aside0.mk A250
        clear A250
        obtain rfl := Option.some.inj H
        obtain ⟨Ao26, co26, eo26⟩ := Kd.R_slice HO_8.out
        subst eo26
        go_wp2_with (first | ((with_reducible refine gate_builtin (b := .append) (xs := #[.tmp 37, .tmp 38]) rfl ?_); (try (refine gate_guard (by rfl) ?_; dsimp only)); at_builtin; refine Kd.R_append_rows k53 (w0 := w) w.heap.size rfl (.tmp 37) (.tmp 38) 44 53 (.agg #[(.int .i64 0), (.int .i64 0), (.int .i64 0), (.int .i64 0), (.int .i64 0)]) 40 rfl Tryd.underlying44 info53 rfl (by decide) (by omega) u9 x9_1 t981 _ _ _ (fun k_ => some k_ ≠ (.slice Ao7 t981.length co7 : Value).ownBlock) (fun _ => False) rfl rfl ?aO ?aR (fun _ _ h => h) (fun _ h => h.elim) ?aF ?aB ?aS ?aL ?_; (case aR => repeat (first | exact (Kd.R_reads' HO_7.out).2.2 | (with_reducible refine Kd.C_alloc ?_ _) | (with_reducible refine Kd.C_drewN ?_ _) | (with_reducible refine Kd.C_drew ?_))); (case aB => exact (by repeat (first | (with_reducible first | exact HB.out | apply below_alloc | apply pw_below_drewN | apply below_drew1) | exact HB.out))); (case aF => exact (fun k_ hk => Kd.fresh' (Kd.R_lt (by (with_reducible repeat (first | apply Kd.R_alloc | apply Kd.R_drewN | apply Kd.R_drew)); exact HO_7.out)) k_ hk)); (case aO => exact (by (with_reducible repeat (first | apply Kd.R_alloc | apply Kd.R_drewN | apply Kd.R_drew)); exact HO_9.out)); (case aS => exact (below_size (by repeat (first | (with_reducible first | exact HB.out | apply below_alloc | apply pw_below_drewN | apply below_drew1) | exact HB.out)))); (case aL => have := LMc16.out; omega); intro v993 w27 ho hb hg hat; rw [← Ny992.out] at ho; have n0_ := Aside0.mk (Kd.R_after (ok := (fun _ => True)) (by (with_reducible repeat (first | apply Kd.R_alloc | apply Kd.R_drewN | apply Kd.R_drew)); exact Kd.R_mono HO_7.out (fun _ hk => ⟨trivial, hk⟩)) hg hat); have n1_ := Aside0.mk (Kd.R_over' (by (with_reducible repeat (first | apply Kd.R_alloc | apply Kd.R_drewN | apply Kd.R_drew)); exact HO_8.out) (Kd.R_typed (by (with_reducible repeat (first | apply Kd.R_alloc | apply Kd.R_drewN | apply Kd.R_drew)); exact HO_9.out)) (by decide) hg); have n2_ := Aside0.mk (hb); have n3_ := Aside0.mk (ho); clear HO_7; clear HO_8; clear HB; clear HO_9; have HO_7 := n0_; have HO_8 := n1_; have HB := n2_; have HO994 := n3_; clear n0_ n1_ n2_ n3_; clear ho hb hg hat) | ((with_reducible refine gate_callee (f := 26) rfl ?_); refine goesL_ (some 41) rfl rfl Tryd.func26 (by kernel_rfl) rfl #[.slice A1 l1.length c1, .int .i64 8] rfl (by (try simp only [List.map_toArray, List.map_cons, List.map_nil]); first | done | rfl | (simp only [List.length_drop, List.length_take]; rfl)) ?_; (with_reducible refine (customsmade_Cut.reads _ _ l1 8 t995 _ ?side1 ?side2 A17.out).mono ?_); (case side1 => repeat (first | exact (Kd.C_below HR1.out HB.out) | (with_reducible refine Kd.C_alloc ?_ _) | (with_reducible refine Kd.C_drewN ?_ _) | (with_reducible refine Kd.C_drew ?_))); (case side2 => exact HC1.out); rintro e w28 ⟨AR996, cR996, rfl, hr, hc, hb⟩; refine ⟨_, rfl, ?_⟩; have n0_ := Aside0.mk (Kd.R_below (by (with_reducible repeat (first | apply Kd.R_alloc | apply Kd.R_drewN | apply Kd.R_drew)); exact HO_7.out) hb); have n1_ := Aside0.mk (Kd.R_below (by (with_reducible repeat (first | apply Kd.R_alloc | apply Kd.R_drewN | apply Kd.R_drew)); exact HO_8.out) hb); have n2_ := Aside0.mk (Kd.R_below (by (with_reducible repeat (first | apply Kd.R_alloc | apply Kd.R_drewN | apply Kd.R_drew)); exact HO994.out) hb); have n3_ := Aside0.mk (below_step (by repeat (first | (with_reducible first | exact HB.out | apply below_alloc | apply pw_below_drewN | apply below_drew1) | exact HB.out)) hb); have n4_ := Aside0.mk (hr _ HR1.out); have n5_ := Aside0.mk (hc); clear HO_7; clear HO_8; clear HO994; clear HB; have HO_7 := n0_; have HO_8 := n1_; have HO994 := n2_; have HB := n3_; have HR996 := n4_; have HC996 := n5_; clear n0_ n1_ n2_ n3_ n4_ n5_; (try clear hb); (try clear hr); (try clear hc)) | ((with_reducible refine gate_callee (f := 23) rfl ?_); refine goesL_ (some 44) rfl rfl Tryd.func23 (by kernel_rfl) rfl #[.slice AR996 t995.length cR996, .int .i64 1, .slice Ao7 t981.length co7] rfl (by (try simp only [List.map_toArray, List.map_cons, List.map_nil]); first | done | rfl | (simp only [List.length_drop, List.length_take]; rfl)) ?_; (with_reducible refine (transit_Seals.calls _ _ t995 1 _ _ t981 t997 _ ?side1 ?side2 ?side3 ?side4 A18.out).mono ?_); (case side1 => repeat (first | exact (Kd.C_below HR996.out HB.out) | (with_reducible refine Kd.C_alloc ?_ _) | (with_reducible refine Kd.C_drewN ?_ _) | (with_reducible refine Kd.C_drew ?_))); (case side2 => exact HC996.out); (case side3 => repeat (first | exact (Kd.R_reads' HO_7.out).2.2 | (with_reducible refine Kd.C_alloc ?_ _) | (with_reducible refine Kd.C_drewN ?_ _) | (with_reducible refine Kd.C_drew ?_))); (case side4 => exact (Kd.R_reads' HO_7.out).2.1); rintro e w29 ⟨v998, rfl, ho0, hb⟩; refine ⟨_, rfl, ?_⟩; have n0_ := Aside0.mk (Kd.R_below (by (with_reducible repeat (first | apply Kd.R_alloc | apply Kd.R_drewN | apply Kd.R_drew)); exact HO_7.out) hb); have n1_ := Aside0.mk (Kd.R_elder' (by (with_reducible repeat (first | apply Kd.R_alloc | apply Kd.R_drewN | apply Kd.R_drew)); exact HO_8.out) (Kd.R_base ho0) hb); have n2_ := Aside0.mk (Kd.R_below (by (with_reducible repeat (first | apply Kd.R_alloc | apply Kd.R_drewN | apply Kd.R_drew)); exact HO994.out) hb); have n3_ := Aside0.mk (Kd.R_lower (Kd.R_new' ho0 (Kd.R_lt (by (with_reducible repeat (first | apply Kd.R_alloc | apply Kd.R_drewN | apply Kd.R_drew)); exact HO_8.out))) (below_size (by repeat (first | (with_reducible first | exact HB.out | apply below_alloc | apply pw_below_drewN | apply below_drew1) | exact HB.out)))); have n4_ := Aside0.mk (below_step (by repeat (first | (with_reducible first | exact HB.out | apply below_alloc | apply pw_below_drewN | apply below_drew1) | exact HB.out)) hb); clear HO_7; clear HO_8; clear HO994; clear HB; have HO_7 := n0_; have HO_8 := n1_; have HO994 := n2_; have HO999 := n3_; have HB := n4_; clear n0_ n1_ n2_ n3_ n4_; (try clear hb); (try clear hb2); (try clear hk); (try clear hi); (try clear ho0); obtain ⟨Ao30, co30, eo30⟩ := Kd.R_slice HO994.out; subst eo30) | ((with_reducible refine gate_callee (f := 23) rfl ?_); refine goesL_ (some 47) rfl rfl Tryd.func23 (by kernel_rfl) rfl #[.slice AR996 t995.length cR996, .int .i64 1, .slice Ao30 y992.length co30] rfl (by (try simp only [List.map_toArray, List.map_cons, List.map_nil]); first | done | rfl | (simp only [List.length_drop, List.length_take]; rfl)) ?_; (with_reducible refine (transit_Seals.calls _ _ t995 1 _ _ y992 t1000 _ ?side1 ?side2 ?side3 ?side4 A19.out).mono ?_); (case side1 => repeat (first | exact (Kd.C_below HR996.out HB.out) | (with_reducible refine Kd.C_alloc ?_ _) | (with_reducible refine Kd.C_drewN ?_ _) | (with_reducible refine Kd.C_drew ?_))); (case side2 => exact HC996.out); (case side3 => repeat (first | exact (Kd.R_reads' HO994.out).2.2 | (with_reducible refine Kd.C_alloc ?_ _) | (with_reducible refine Kd.C_drewN ?_ _) | (with_reducible refine Kd.C_drew ?_))); (case side4 => exact (Kd.R_reads' HO994.out).2.1); rintro e w31 ⟨v1001, rfl, ho0, hb⟩; refine ⟨_, rfl, ?_⟩; have n0_ := Aside0.mk (Kd.R_below (by (with_reducible repeat (first | apply Kd.R_alloc | apply Kd.R_drewN | apply Kd.R_drew)); exact HO_7.out) hb); have n1_ := Aside0.mk (Kd.R_elder' (by (with_reducible repeat (first | apply Kd.R_alloc | apply Kd.R_drewN | apply Kd.R_drew)); exact HO_8.out) (Kd.R_base ho0) hb); have n2_ := Aside0.mk (Kd.R_below (by (with_reducible repeat (first | apply Kd.R_alloc | apply Kd.R_drewN | apply Kd.R_drew)); exact HO994.out) hb); have n3_ := Aside0.mk (Kd.R_elder' (by (with_reducible repeat (first | apply Kd.R_alloc | apply Kd.R_drewN | apply Kd.R_drew)); exact HO999.out) (Kd.R_base ho0) hb); have n4_ := Aside0.mk (Kd.R_lower (Kd.R_new' (Kd.R_new' ho0 (Kd.R_lt (by (with_reducible repeat (first | apply Kd.R_alloc | apply Kd.R_drewN | apply Kd.R_drew)); exact HO_8.out))) (Kd.R_lt (by (with_reducible repeat (first | apply Kd.R_alloc | apply Kd.R_drewN | apply Kd.R_drew)); exact HO999.out))) (below_size (by repeat (first | (with_reducible first | exact HB.out | apply below_alloc | apply pw_below_drewN | apply below_drew1) | exact HB.out)))); have n5_ := Aside0.mk (below_step (by repeat (first | (with_reducible first | exact HB.out | apply below_alloc | apply pw_below_drewN | apply below_drew1) | exact HB.out)) hb); clear HO_7; clear HO_8; clear HO994; clear HO999; clear HB; have HO_7 := n0_; have HO_8 := n1_; have HO994 := n2_; have HO999 := n3_; have HO1002 := n4_; have HB := n5_; clear n0_ n1_ n2_ n3_ n4_ n5_; (try clear hb); (try clear hb2); (try clear hk); (try clear hi); (try clear ho0); obtain ⟨Ao32, co32, eo32⟩ := Kd.R_slice HO999.out; subst eo32; obtain ⟨Ao33, co33, eo33⟩ := Kd.R_slice HO1002.out; subst eo33) | ((with_reducible refine gate_callee (f := 20) rfl ?_); refine goesL_ (some 51) rfl rfl Tryd.func20 (by kernel_rfl) rfl #[.slice Ao32 t997.length co32, .slice Ao33 t1000.length co33] rfl (by (try simp only [List.map_toArray, List.map_cons, List.map_nil]); first | done | rfl | (simp only [List.length_drop, List.length_take]; rfl)) ?_; (with_reducible refine (transit_Compare.calls _ _ t997 _ _ t1000 t1003 t1004 _ ?side1 ?side2 ?side3 ?side4 A20.out).mono ?_); (case side1 => repeat (first | exact (Kd.R_reads' HO999.out).2.2 | (with_reducible refine Kd.C_alloc ?_ _) | (with_reducible refine Kd.C_drewN ?_ _) | (with_reducible refine Kd.C_drew ?_))); (case side2 => exact (Kd.R_reads' HO999.out).2.1); (case side3 => repeat (first | exact (Kd.R_reads' HO1002.out).2.2 | (with_reducible refine Kd.C_alloc ?_ _) | (with_reducible refine Kd.C_drewN ?_ _) | (with_reducible refine Kd.C_drew ?_))); (case side4 => exact (Kd.R_reads' HO1002.out).2.1); rintro e w34 ⟨v1005, v1007, rfl, ho0, ho1, hb⟩; refine ⟨_, rfl, ?_⟩; have n0_ := Aside0.mk (Kd.R_below (by (with_reducible repeat (first | apply Kd.R_alloc | apply Kd.R_drewN | apply Kd.R_drew)); exact HO_7.out) hb); have n1_ := Aside0.mk (Kd.R_mono (Kd.R_told (Kd.R_told (Kd.R_old (by (with_reducible repeat (first | apply Kd.R_alloc | apply Kd.R_drewN | apply Kd.R_drew)); exact HO_8.out) hb) (Kd.R_base ho0)) (Kd.R_base ho1)) (fun _ h_ => h_.1)); have n2_ := Aside0.mk (Kd.R_below (by (with_reducible repeat (first | apply Kd.R_alloc | apply Kd.R_drewN | apply Kd.R_drew)); exact HO994.out) hb); have n3_ := Aside0.mk (Kd.R_mono (Kd.R_told (Kd.R_told (Kd.R_old (by (with_reducible repeat (first | apply Kd.R_alloc | apply Kd.R_drewN | apply Kd.R_drew)); exact HO999.out) hb) (Kd.R_base ho0)) (Kd.R_base ho1)) (fun _ h_ => h_.1)); have n4_ := Aside0.mk (Kd.R_mono (Kd.R_told (Kd.R_told (Kd.R_old (by (with_reducible repeat (first | apply Kd.R_alloc | apply Kd.R_drewN | apply Kd.R_drew)); exact HO1002.out) hb) (Kd.R_base ho0)) (Kd.R_base ho1)) (fun _ h_ => h_.1)); have n5_ := Aside0.mk (Kd.R_lower (Kd.R_new' (Kd.R_new' (Kd.R_new' ho0 (Kd.R_lt (by (with_reducible repeat (first | apply Kd.R_alloc | apply Kd.R_drewN | apply Kd.R_drew)); exact HO_8.out))) (Kd.R_lt (by (with_reducible repeat (first | apply Kd.R_alloc | apply Kd.R_drewN | apply Kd.R_drew)); exact HO999.out))) (Kd.R_lt (by (with_reducible repeat (first | apply Kd.R_alloc | apply Kd.R_drewN | apply Kd.R_drew)); exact HO1002.out))) (below_size (by repeat (first | (with_reducible first | exact HB.out | apply below_alloc | apply pw_below_drewN | apply below_drew1) | exact HB.out)))); have n6_ := Aside0.mk (Kd.R_lower (Kd.R_new' (Kd.R_new' (Kd.R_new' ho1 (Kd.R_lt (by (with_reducible repeat (first | apply Kd.R_alloc | apply Kd.R_drewN | apply Kd.R_drew)); exact HO_8.out))) (Kd.R_lt (by (with_reducible repeat (first | apply Kd.R_alloc | apply Kd.R_drewN | apply Kd.R_drew)); exact HO999.out))) (Kd.R_lt (by (with_reducible repeat (first | apply Kd.R_alloc | apply Kd.R_drewN | apply Kd.R_drew)); exact HO1002.out))) (below_size (by repeat (first | (with_reducible first | exact HB.out | apply below_alloc | apply pw_below_drewN | apply below_drew1) | exact HB.out)))); have n7_ := Aside0.mk (below_step (by repeat (first | (with_reducible first | exact HB.out | apply below_alloc | apply pw_below_drewN | apply below_drew1) | exact HB.out)) hb); clear HO_7; clear HO_8; clear HO994; clear HO999; clear HO1002; clear HB; have HO_7 := n0_; have HO_8 := n1_; have HO994 := n2_; have HO999 := n3_; have HO1002 := n4_; have HO1006 := n5_; have HO1008 := n6_; have HB := n7_; clear n0_ n1_ n2_ n3_ n4_ n5_ n6_ n7_; (try clear hb); (try clear hb2); (try clear hk); (try clear hi); (try clear ho0); (try clear ho1)) | ((with_reducible refine gate_callee (f := 22) rfl ?_); refine goesL_ (some 56) rfl rfl Tryd.func22 (by kernel_rfl) rfl #[.slice Ao32 t997.length co32, .slice Ao33 t1000.length co33] rfl (by (try simp only [List.map_toArray, List.map_cons, List.map_nil]); first | done | rfl | (simp only [List.length_drop, List.length_take]; rfl)) ?_; (with_reducible refine (customsref33_SameInts.calls k1 _ _ t997 _ _ t1000 true _ ?side1 ?side2 ?side3 ?side4 A21.out).mono ?_); (case side1 => repeat (first | exact (Kd.R_reads' HO999.out).2.2 | (with_reducible refine Kd.C_alloc ?_ _) | (with_reducible refine Kd.C_drewN ?_ _) | (with_reducible refine Kd.C_drew ?_))); (case side2 => exact (Kd.R_reads' HO999.out).2.1); (case side3 => repeat (first | exact (Kd.R_reads' HO1002.out).2.2 | (with_reducible refine Kd.C_alloc ?_ _) | (with_reducible refine Kd.C_drewN ?_ _) | (with_reducible refine Kd.C_drew ?_))); (case side4 => exact (Kd.R_reads' HO1002.out).2.1); rintro e w' ⟨rfl, ⟨nd, rfl⟩⟩; refine ⟨_, rfl, ?_⟩; obtain ⟨Ao35, co35, eo35⟩ := Kd.R_slice HO1006.out; subst eo35; obtain ⟨Ao36, co36, eo36⟩ := Kd.R_slice HO1008.out; subst eo36) | (go_at_call 16; (with_reducible refine (customslaw35_awake.calls  t1010 _ ?side1 A25.out).mono ?_); (case side1 => exact GL_changes.of_below (by repeat (first | (with_reducible first | exact HB.out | apply below_alloc | apply pw_below_drewN | apply below_drew1) | exact HB.out)) HG_changes.out); rintro e w37 ⟨rfl, hb⟩; have n0_ := Aside0.mk (Kd.R_below (by (with_reducible repeat (first | apply Kd.R_alloc | apply Kd.R_drewN | apply Kd.R_drew)); exact HO_7.out) hb); have n1_ := Aside0.mk (Kd.R_below (by (with_reducible repeat (first | apply Kd.R_alloc | apply Kd.R_drewN | apply Kd.R_drew)); exact HO_8.out) hb); have n2_ := Aside0.mk (Kd.R_below (by (with_reducible repeat (first | apply Kd.R_alloc | apply Kd.R_drewN | apply Kd.R_drew)); exact HO994.out) hb); have n3_ := Aside0.mk (Kd.R_below (by (with_reducible repeat (first | apply Kd.R_alloc | apply Kd.R_drewN | apply Kd.R_drew)); exact HO999.out) hb); have n4_ := Aside0.mk (Kd.R_below (by (with_reducible repeat (first | apply Kd.R_alloc | apply Kd.R_drewN | apply Kd.R_drew)); exact HO1002.out) hb); have n5_ := Aside0.mk (Kd.R_below (by (with_reducible repeat (first | apply Kd.R_alloc | apply Kd.R_drewN | apply Kd.R_drew)); exact HO1006.out) hb); have n6_ := Aside0.mk (Kd.R_below (by (with_reducible repeat (first | apply Kd.R_alloc | apply Kd.R_drewN | apply Kd.R_drew)); exact HO1008.out) hb); have n7_ := Aside0.mk (below_step (by repeat (first | (with_reducible first | exact HB.out | apply below_alloc | apply pw_below_drewN | apply below_drew1) | exact HB.out)) hb); clear HO_7; clear HO_8; clear HO994; clear HO999; clear HO1002; clear HO1006; clear HO1008; clear HB; have HO_7 := n0_; have HO_8 := n1_; have HO994 := n2_; have HO999 := n3_; have HO1002 := n4_; have HO1006 := n5_; have HO1008 := n6_; have HB := n7_; clear n0_ n1_ n2_ n3_ n4_ n5_ n6_ n7_; (try clear hb); (try clear hb2); (try clear hk); (try clear hi)))
        go_ret
        exact ⟨by first | rfl | (simp [errW_none, errW_some] <;> rfl) | (simp [*, errW_none, errW_some] <;> rfl), by repeat (first | (with_reducible first | exact HB.out | apply below_alloc | apply pw_below_drewN | apply below_drew1) | exact HB.out)⟩
       ·
        rw [if_neg c24] at H
        have c24b0 : ((t1004.length : Int) == 0) = false := beq_eq_false_iff_ne.mpr c24
        have c24b1 : ((t1004.length : Int) != 0) = true := bne_iff_ne.mpr c24
        have c24b2 : ¬ (t1004 = []) := fun h_ => c24 (by rw [h_]; rfl)
        obtain rfl := Option.some.inj H
        obtain ⟨Ao38, co38, eo38⟩ := Kd.R_slice HO_8.out
        subst eo38
        go_wp2_with (first | ((with_reducible refine gate_builtin (b := .append) (xs := #[.tmp 37, .tmp 38]) rfl ?_); (try (refine gate_guard (by rfl) ?_; dsimp only)); at_builtin; refine Kd.R_append_rows k53 (w0 := w) w.heap.size rfl (.tmp 37) (.tmp 38) 44 53 (.agg #[(.int .i64 0), (.int .i64 0), (.int .i64 0), (.int .i64 0), (.int .i64 0)]) 40 rfl Tryd.underlying44 info53 rfl (by decide) (by omega) u9 x9_1 t981 _ _ _ (fun k_ => some k_ ≠ (.slice Ao7 t981.length co7 : Value).ownBlock) (fun _ => False) rfl rfl ?aO ?aR (fun _ _ h => h) (fun _ h => h.elim) ?aF ?aB ?aS ?aL ?_; (case aR => repeat (first | exact (Kd.R_reads' HO_7.out).2.2 | (with_reducible refine Kd.C_alloc ?_ _) | (with_reducible refine Kd.C_drewN ?_ _) | (with_reducible refine Kd.C_drew ?_))); (case aB => exact (by repeat (first | (with_reducible first | exact HB.out | apply below_alloc | apply pw_below_drewN | apply below_drew1) | exact HB.out))); (case aF => exact (fun k_ hk => Kd.fresh' (Kd.R_lt (by (with_reducible repeat (first | apply Kd.R_alloc | apply Kd.R_drewN | apply Kd.R_drew)); exact HO_7.out)) k_ hk)); (case aO => exact (by (with_reducible repeat (first | apply Kd.R_alloc | apply Kd.R_drewN | apply Kd.R_drew)); exact HO_9.out)); (case aS => exact (below_size (by repeat (first | (with_reducible first | exact HB.out | apply below_alloc | apply pw_below_drewN | apply below_drew1) | exact HB.out)))); (case aL => have := LMc16.out; omega); intro v993 w39 ho hb hg hat; rw [← Ny992.out] at ho; have n0_ := Aside0.mk (Kd.R_after (ok := (fun _ => True)) (by (with_reducible repeat (first | apply Kd.R_alloc | apply Kd.R_drewN | apply Kd.R_drew)); exact Kd.R_mono HO_7.out (fun _ hk => ⟨trivial, hk⟩)) hg hat); have n1_ := Aside0.mk (Kd.R_over' (by (with_reducible repeat (first | apply Kd.R_alloc | apply Kd.R_drewN | apply Kd.R_drew)); exact HO_8.out) (Kd.R_typed (by (with_reducible repeat (first | apply Kd.R_alloc | apply Kd.R_drewN | apply Kd.R_drew)); exact HO_9.out)) (by decide) hg); have n2_ := Aside0.mk (hb); have n3_ := Aside0.mk (ho); clear HO_7; clear HO_8; clear HB; clear HO_9; have HO_7 := n0_; have HO_8 := n1_; have HB := n2_; have HO994 := n3_; clear n0_ n1_ n2_ n3_; clear ho hb hg hat) | ((with_reducible refine gate_callee (f := 26) rfl ?_); refine goesL_ (some 41) rfl rfl Tryd.func26 (by kernel_rfl) rfl #[.slice A1 l1.length c1, .int .i64 8] rfl (by (try simp only [List.map_toArray, List.map_cons, List.map_nil]); first | done | rfl | (simp only [List.length_drop, List.length_take]; rfl)) ?_; (with_reducible refine (customsmade_Cut.reads _ _ l1 8 t995 _ ?side1 ?side2 A17.out).mono ?_); (case side1 => repeat (first | exact (Kd.C_below HR1.out HB.out) | (with_reducible refine Kd.C_alloc ?_ _) | (with_reducible refine Kd.C_drewN ?_ _) | (with_reducible refine Kd.C_drew ?_))); (case side2 => exact HC1.out); rintro e w40 ⟨AR996, cR996, rfl, hr, hc, hb⟩; refine ⟨_, rfl, ?_⟩; have n0_ := Aside0.mk (Kd.R_below (by (with_reducible repeat (first | apply Kd.R_alloc | apply Kd.R_drewN | apply Kd.R_drew)); exact HO_7.out) hb); have n1_ := Aside0.mk (Kd.R_below (by (with_reducible repeat (first | apply Kd.R_alloc | apply Kd.R_drewN | apply Kd.R_drew)); exact HO_8.out) hb); have n2_ := Aside0.mk (Kd.R_below (by (with_reducible repeat (first | apply Kd.R_alloc | apply Kd.R_drewN | apply Kd.R_drew)); exact HO994.out) hb); have n3_ := Aside0.mk (below_step (by repeat (first | (with_reducible first | exact HB.out | apply below_alloc | apply pw_below_drewN | apply below_drew1) | exact HB.out)) hb); have n4_ := Aside0.mk (hr _ HR1.out); have n5_ := Aside0.mk (hc); clear HO_7; clear HO_8; clear HO994; clear HB; have HO_7 := n0_; have HO_8 := n1_; have HO994 := n2_; have HB := n3_; have HR996 := n4_; have HC996 := n5_; clear n0_ n1_ n2_ n3_ n4_ n5_; (try clear hb); (try clear hr); (try clear hc)) | ((with_reducible refine gate_callee (f := 23) rfl ?_); refine goesL_ (some 44) rfl rfl Tryd.func23 (by kernel_rfl) rfl #[.slice AR996 t995.length cR996, .int .i64 1, .slice Ao7 t981.length co7] rfl (by (try simp only [List.map_toArray, List.map_cons, List.map_nil]); first | done | rfl | (simp only [List.length_drop, List.length_take]; rfl)) ?_; (with_reducible refine (transit_Seals.calls _ _ t995 1 _ _ t981 t997 _ ?side1 ?side2 ?side3 ?side4 A18.out).mono ?_); (case side1 => repeat (first | exact (Kd.C_below HR996.out HB.out) | (with_reducible refine Kd.C_alloc ?_ _) | (with_reducible refine Kd.C_drewN ?_ _) | (with_reducible refine Kd.C_drew ?_))); (case side2 => exact HC996.out); (case side3 => repeat (first | exact (Kd.R_reads' HO_7.out).2.2 | (with_reducible refine Kd.C_alloc ?_ _) | (with_reducible refine Kd.C_drewN ?_ _) | (with_reducible refine Kd.C_drew ?_))); (case side4 => exact (Kd.R_reads' HO_7.out).2.1); rintro e w41 ⟨v998, rfl, ho0, hb⟩; refine ⟨_, rfl, ?_⟩; have n0_ := Aside0.mk (Kd.R_below (by (with_reducible repeat (first | apply Kd.R_alloc | apply Kd.R_drewN | apply Kd.R_drew)); exact HO_7.out) hb); have n1_ := Aside0.mk (Kd.R_elder' (by (with_reducible repeat (first | apply Kd.R_alloc | apply Kd.R_drewN | apply Kd.R_drew)); exact HO_8.out) (Kd.R_base ho0) hb); have n2_ := Aside0.mk (Kd.R_below (by (with_reducible repeat (first | apply Kd.R_alloc | apply Kd.R_drewN | apply Kd.R_drew)); exact HO994.out) hb); have n3_ := Aside0.mk (Kd.R_lower (Kd.R_new' ho0 (Kd.R_lt (by (with_reducible repeat (first | apply Kd.R_alloc | apply Kd.R_drewN | apply Kd.R_drew)); exact HO_8.out))) (below_size (by repeat (first | (with_reducible first | exact HB.out | apply below_alloc | apply pw_below_drewN | apply below_drew1) | exact HB.out)))); have n4_ := Aside0.mk (below_step (by repeat (first | (with_reducible first | exact HB.out | apply below_alloc | apply pw_below_drewN | apply below_drew1) | exact HB.out)) hb); clear HO_7; clear HO_8; clear HO994; clear HB; have HO_7 := n0_; have HO_8 := n1_; have HO994 := n2_; have HO999 := n3_; have HB := n4_; clear n0_ n1_ n2_ n3_ n4_; (try clear hb); (try clear hb2); (try clear hk); (try clear hi); (try clear ho0); obtain ⟨Ao42, co42, eo42⟩ := Kd.R_slice HO994.out; subst eo42) | ((with_reducible refine gate_callee (f := 23) rfl ?_); refine goesL_ (some 47) rfl rfl Tryd.func23 (by kernel_rfl) rfl #[.slice AR996 t995.length cR996, .int .i64 1, .slice Ao42 y992.length co42] rfl (by (try simp only [List.map_toArray, List.map_cons, List.map_nil]); first | done | rfl | (simp only [List.length_drop, List.length_take]; rfl)) ?_; (with_reducible refine (transit_Seals.calls _ _ t995 1 _ _ y992 t1000 _ ?side1 ?side2 ?side3 ?side4 A19.out).mono ?_); (case side1 => repeat (first | exact (Kd.C_below HR996.out HB.out) | (with_reducible refine Kd.C_alloc ?_ _) | (with_reducible refine Kd.C_drewN ?_ _) | (with_reducible refine Kd.C_drew ?_))); (case side2 => exact HC996.out); (case side3 => repeat (first | exact (Kd.R_reads' HO994.out).2.2 | (with_reducible refine Kd.C_alloc ?_ _) | (with_reducible refine Kd.C_drewN ?_ _) | (with_reducible refine Kd.C_drew ?_))); (case side4 => exact (Kd.R_reads' HO994.out).2.1); rintro e w43 ⟨v1001, rfl, ho0, hb⟩; refine ⟨_, rfl, ?_⟩; have n0_ := Aside0.mk (Kd.R_below (by (with_reducible repeat (first | apply Kd.R_alloc | apply Kd.R_drewN | apply Kd.R_drew)); exact HO_7.out) hb); have n1_ := Aside0.mk (Kd.R_elder' (by (with_reducible repeat (first | apply Kd.R_alloc | apply Kd.R_drewN | apply Kd.R_drew)); exact HO_8.out) (Kd.R_base ho0) hb); have n2_ := Aside0.mk (Kd.R_below (by (with_reducible repeat (first | apply Kd.R_alloc | apply Kd.R_drewN | apply Kd.R_drew)); exact HO994.out) hb); have n3_ := Aside0.mk (Kd.R_elder' (by (with_reducible repeat (first | apply Kd.R_alloc | apply Kd.R_drewN | apply Kd.R_drew)); exact HO999.out) (Kd.R_base ho0) hb); have n4_ := Aside0.mk (Kd.R_lower (Kd.R_new' (Kd.R_new' ho0 (Kd.R_lt (by (with_reducible repeat (first | apply Kd.R_alloc | apply Kd.R_drewN | apply Kd.R_drew)); exact HO_8.out))) (Kd.R_lt (by (with_reducible repeat (first | apply Kd.R_alloc | apply Kd.R_drewN | apply Kd.R_drew)); exact HO999.out))) (below_size (by repeat (first | (with_reducible first | exact HB.out | apply below_alloc | apply pw_below_drewN | apply below_drew1) | exact HB.out)))); have n5_ := Aside0.mk (below_step (by repeat (first | (with_reducible first | exact HB.out | apply below_alloc | apply pw_below_drewN | apply below_drew1) | exact HB.out)) hb); clear HO_7; clear HO_8; clear HO994; clear HO999; clear HB; have HO_7 := n0_; have HO_8 := n1_; have HO994 := n2_; have HO999 := n3_; have HO1002 := n4_; have HB := n5_; clear n0_ n1_ n2_ n3_ n4_ n5_; (try clear hb); (try clear hb2); (try clear hk); (try clear hi); (try clear ho0); obtain ⟨Ao44, co44, eo44⟩ := Kd.R_slice HO999.out; subst eo44; obtain ⟨Ao45, co45, eo45⟩ := Kd.R_slice HO1002.out; subst eo45) | ((with_reducible refine gate_callee (f := 20) rfl ?_); refine goesL_ (some 51) rfl rfl Tryd.func20 (by kernel_rfl) rfl #[.slice Ao44 t997.length co44, .slice Ao45 t1000.length co45] rfl (by (try simp only [List.map_toArray, List.map_cons, List.map_nil]); first | done | rfl | (simp only [List.length_drop, List.length_take]; rfl)) ?_; (with_reducible refine (transit_Compare.calls _ _ t997 _ _ t1000 t1003 t1004 _ ?side1 ?side2 ?side3 ?side4 A20.out).mono ?_); (case side1 => repeat (first | exact (Kd.R_reads' HO999.out).2.2 | (with_reducible refine Kd.C_alloc ?_ _) | (with_reducible refine Kd.C_drewN ?_ _) | (with_reducible refine Kd.C_drew ?_))); (case side2 => exact (Kd.R_reads' HO999.out).2.1); (case side3 => repeat (first | exact (Kd.R_reads' HO1002.out).2.2 | (with_reducible refine Kd.C_alloc ?_ _) | (with_reducible refine Kd.C_drewN ?_ _) | (with_reducible refine Kd.C_drew ?_))); (case side4 => exact (Kd.R_reads' HO1002.out).2.1); rintro e w46 ⟨v1005, v1007, rfl, ho0, ho1, hb⟩; refine ⟨_, rfl, ?_⟩; have n0_ := Aside0.mk (Kd.R_below (by (with_reducible repeat (first | apply Kd.R_alloc | apply Kd.R_drewN | apply Kd.R_drew)); exact HO_7.out) hb); have n1_ := Aside0.mk (Kd.R_mono (Kd.R_told (Kd.R_told (Kd.R_old (by (with_reducible repeat (first | apply Kd.R_alloc | apply Kd.R_drewN | apply Kd.R_drew)); exact HO_8.out) hb) (Kd.R_base ho0)) (Kd.R_base ho1)) (fun _ h_ => h_.1)); have n2_ := Aside0.mk (Kd.R_below (by (with_reducible repeat (first | apply Kd.R_alloc | apply Kd.R_drewN | apply Kd.R_drew)); exact HO994.out) hb); have n3_ := Aside0.mk (Kd.R_mono (Kd.R_told (Kd.R_told (Kd.R_old (by (with_reducible repeat (first | apply Kd.R_alloc | apply Kd.R_drewN | apply Kd.R_drew)); exact HO999.out) hb) (Kd.R_base ho0)) (Kd.R_base ho1)) (fun _ h_ => h_.1)); have n4_ := Aside0.mk (Kd.R_mono (Kd.R_told (Kd.R_told (Kd.R_old (by (with_reducible repeat (first | apply Kd.R_alloc | apply Kd.R_drewN | apply Kd.R_drew)); exact HO1002.out) hb) (Kd.R_base ho0)) (Kd.R_base ho1)) (fun _ h_ => h_.1)); have n5_ := Aside0.mk (Kd.R_lower (Kd.R_new' (Kd.R_new' (Kd.R_new' ho0 (Kd.R_lt (by (with_reducible repeat (first | apply Kd.R_alloc | apply Kd.R_drewN | apply Kd.R_drew)); exact HO_8.out))) (Kd.R_lt (by (with_reducible repeat (first | apply Kd.R_alloc | apply Kd.R_drewN | apply Kd.R_drew)); exact HO999.out))) (Kd.R_lt (by (with_reducible repeat (first | apply Kd.R_alloc | apply Kd.R_drewN | apply Kd.R_drew)); exact HO1002.out))) (below_size (by repeat (first | (with_reducible first | exact HB.out | apply below_alloc | apply pw_below_drewN | apply below_drew1) | exact HB.out)))); have n6_ := Aside0.mk (Kd.R_lower (Kd.R_new' (Kd.R_new' (Kd.R_new' ho1 (Kd.R_lt (by (with_reducible repeat (first | apply Kd.R_alloc | apply Kd.R_drewN | apply Kd.R_drew)); exact HO_8.out))) (Kd.R_lt (by (with_reducible repeat (first | apply Kd.R_alloc | apply Kd.R_drewN | apply Kd.R_drew)); exact HO999.out))) (Kd.R_lt (by (with_reducible repeat (first | apply Kd.R_alloc | apply Kd.R_drewN | apply Kd.R_drew)); exact HO1002.out))) (below_size (by repeat (first | (with_reducible first | exact HB.out | apply below_alloc | apply pw_below_drewN | apply below_drew1) | exact HB.out)))); have n7_ := Aside0.mk (below_step (by repeat (first | (with_reducible first | exact HB.out | apply below_alloc | apply pw_below_drewN | apply below_drew1) | exact HB.out)) hb); clear HO_7; clear HO_8; clear HO994; clear HO999; clear HO1002; clear HB; have HO_7 := n0_; have HO_8 := n1_; have HO994 := n2_; have HO999 := n3_; have HO1002 := n4_; have HO1006 := n5_; have HO1008 := n6_; have HB := n7_; clear n0_ n1_ n2_ n3_ n4_ n5_ n6_ n7_; (try clear hb); (try clear hb2); (try clear hk); (try clear hi); (try clear ho0); (try clear ho1)) | ((with_reducible refine gate_callee (f := 22) rfl ?_); refine goesL_ (some 56) rfl rfl Tryd.func22 (by kernel_rfl) rfl #[.slice Ao44 t997.length co44, .slice Ao45 t1000.length co45] rfl (by (try simp only [List.map_toArray, List.map_cons, List.map_nil]); first | done | rfl | (simp only [List.length_drop, List.length_take]; rfl)) ?_; (with_reducible refine (customsref33_SameInts.calls k1 _ _ t997 _ _ t1000 true _ ?side1 ?side2 ?side3 ?side4 A21.out).mono ?_); (case side1 => repeat (first | exact (Kd.R_reads' HO999.out).2.2 | (with_reducible refine Kd.C_alloc ?_ _) | (with_reducible refine Kd.C_drewN ?_ _) | (with_reducible refine Kd.C_drew ?_))); (case side2 => exact (Kd.R_reads' HO999.out).2.1); (case side3 => repeat (first | exact (Kd.R_reads' HO1002.out).2.2 | (with_reducible refine Kd.C_alloc ?_ _) | (with_reducible refine Kd.C_drewN ?_ _) | (with_reducible refine Kd.C_drew ?_))); (case side4 => exact (Kd.R_reads' HO1002.out).2.1); rintro e w' ⟨rfl, ⟨nd, rfl⟩⟩; refine ⟨_, rfl, ?_⟩; obtain ⟨Ao47, co47, eo47⟩ := Kd.R_slice HO1006.out; subst eo47; obtain ⟨Ao48, co48, eo48⟩ := Kd.R_slice HO1008.out; subst eo48))
        go_ret
        exact ⟨by first | rfl | (simp [errW_none, errW_some] <;> rfl) | (simp [*, errW_none, errW_some] <;> rfl), by repeat (first | (with_reducible first | exact HB.out | apply below_alloc | apply pw_below_drewN | apply below_drew1) | exact HB.out)⟩
      ·
       rw [if_neg c23] at H
       have c23b0 : ((t1003.length : Int) == 0) = false := beq_eq_false_iff_ne.mpr c23
       have c23b1 : ((t1003.length : Int) != 0) = true := bne_iff_ne.mpr c23
       have c23b2 : ¬ (t1003 = []) := fun h_ => c23 (by rw [h_]; rfl)
       obtain rfl := Option.some.inj H
       obtain ⟨Ao49, co49, eo49⟩ := Kd.R_slice HO_8.out
       subst eo49
       go_wp2_with (first | ((with_reducible refine gate_builtin (b := .append) (xs := #[.tmp 37, .tmp 38]) rfl ?_); (try (refine gate_guard (by rfl) ?_; dsimp only)); at_builtin; refine Kd.R_append_rows k53 (w0 := w) w.heap.size rfl (.tmp 37) (.tmp 38) 44 53 (.agg #[(.int .i64 0), (.int .i64 0), (.int .i64 0), (.int .i64 0), (.int .i64 0)]) 40 rfl Tryd.underlying44 info53 rfl (by decide) (by omega) u9 x9_1 t981 _ _ _ (fun k_ => some k_ ≠ (.slice Ao7 t981.length co7 : Value).ownBlock) (fun _ => False) rfl rfl ?aO ?aR (fun _ _ h => h) (fun _ h => h.elim) ?aF ?aB ?aS ?aL ?_; (case aR => repeat (first | exact (Kd.R_reads' HO_7.out).2.2 | (with_reducible refine Kd.C_alloc ?_ _) | (with_reducible refine Kd.C_drewN ?_ _) | (with_reducible refine Kd.C_drew ?_))); (case aB => exact (by repeat (first | (with_reducible first | exact HB.out | apply below_alloc | apply pw_below_drewN | apply below_drew1) | exact HB.out))); (case aF => exact (fun k_ hk => Kd.fresh' (Kd.R_lt (by (with_reducible repeat (first | apply Kd.R_alloc | apply Kd.R_drewN | apply Kd.R_drew)); exact HO_7.out)) k_ hk)); (case aO => exact (by (with_reducible repeat (first | apply Kd.R_alloc | apply Kd.R_drewN | apply Kd.R_drew)); exact HO_9.out)); (case aS => exact (below_size (by repeat (first | (with_reducible first | exact HB.out | apply below_alloc | apply pw_below_drewN | apply below_drew1) | exact HB.out)))); (case aL => have := LMc16.out; omega); intro v993 w50 ho hb hg hat; rw [← Ny992.out] at ho; have n0_ := Aside0.mk (Kd.R_after (ok := (fun _ => True)) (by (with_reducible repeat (first | apply Kd.R_alloc | apply Kd.R_drewN | apply Kd.R_drew)); exact Kd.R_mono HO_7.out (fun _ hk => ⟨trivial, hk⟩)) hg hat); have n1_ := Aside0.mk (Kd.R_over' (by (with_reducible repeat (first | apply Kd.R_alloc | apply Kd.R_drewN | apply Kd.R_drew)); exact HO_8.out) (Kd.R_typed (by (with_reducible repeat (first | apply Kd.R_alloc | apply Kd.R_drewN | apply Kd.R_drew)); exact HO_9.out)) (by decide) hg); have n2_ := Aside0.mk (hb); have n3_ := Aside0.mk (ho); clear HO_7; clear HO_8; clear HB; clear HO_9; have HO_7 := n0_; have HO_8 := n1_; have HB := n2_; have HO994 := n3_; clear n0_ n1_ n2_ n3_; clear ho hb hg hat) | ((with_reducible refine gate_callee (f := 26) rfl ?_); refine goesL_ (some 41) rfl rfl Tryd.func26 (by kernel_rfl) rfl #[.slice A1 l1.length c1, .int .i64 8] rfl (by (try simp only [List.map_toArray, List.map_cons, List.map_nil]); first | done | rfl | (simp only [List.length_drop, List.length_take]; rfl)) ?_; (with_reducible refine (customsmade_Cut.reads _ _ l1 8 t995 _ ?side1 ?side2 A17.out).mono ?_); (case side1 => repeat (first | exact (Kd.C_below HR1.out HB.out) | (with_reducible refine Kd.C_alloc ?_ _) | (with_reducible refine Kd.C_drewN ?_ _) | (with_reducible refine Kd.C_drew ?_))); (case side2 => exact HC1.out); rintro e w51 ⟨AR996, cR996, rfl, hr, hc, hb⟩; refine ⟨_, rfl, ?_⟩; have n0_ := Aside0.mk (Kd.R_below (by (with_reducible repeat (first | apply Kd.R_alloc | apply Kd.R_drewN | apply Kd.R_drew)); exact HO_7.out) hb); have n1_ := Aside0.mk (Kd.R_below (by (with_reducible repeat (first | apply Kd.R_alloc | apply Kd.R_drewN | apply Kd.R_drew)); exact HO_8.out) hb); have n2_ := Aside0.mk (Kd.R_below (by (with_reducible repeat (first | apply Kd.R_alloc | apply Kd.R_drewN | apply Kd.R_drew)); exact HO994.out) hb); have n3_ := Aside0.mk (below_step (by repeat (first | (with_reducible first | exact HB.out | apply below_alloc | apply pw_below_drewN | apply below_drew1) | exact HB.out)) hb); have n4_ := Aside0.mk (hr _ HR1.out); have n5_ := Aside0.mk (hc); clear HO_7; clear HO_8; clear HO994; clear HB; have HO_7 := n0_; have HO_8 := n1_; have HO994 := n2_; have HB := n3_; have HR996 := n4_; have HC996 := n5_; clear n0_ n1_ n2_ n3_ n4_ n5_; (try clear hb); (try clear hr); (try clear hc)) | ((with_reducible refine gate_callee (f := 23) rfl ?_); refine goesL_ (some 44) rfl rfl Tryd.func23 (by kernel_rfl) rfl #[.slice AR996 t995.length cR996, .int .i64 1, .slice Ao7 t981.length co7] rfl (by (try simp only [List.map_toArray, List.map_cons, List.map_nil]); first | done | rfl | (simp only [List.length_drop, List.length_take]; rfl)) ?_; (with_reducible refine (transit_Seals.calls _ _ t995 1 _ _ t981 t997 _ ?side1 ?side2 ?side3 ?side4 A18.out).mono ?_); (case side1 => repeat (first | exact (Kd.C_below HR996.out HB.out) | (with_reducible refine Kd.C_alloc ?_ _) | (with_reducible refine Kd.C_drewN ?_ _) | (with_reducible refine Kd.C_drew ?_))); (case side2 => exact HC996.out); (case side3 => repeat (first | exact (Kd.R_reads' HO_7.out).2.2 | (with_reducible refine Kd.C_alloc ?_ _) | (with_reducible refine Kd.C_drewN ?_ _) | (with_reducible refine Kd.C_drew ?_))); (case side4 => exact (Kd.R_reads' HO_7.out).2.1); rintro e w52 ⟨v998, rfl, ho0, hb⟩; refine ⟨_, rfl, ?_⟩; have n0_ := Aside0.mk (Kd.R_below (by (with_reducible repeat (first | apply Kd.R_alloc | apply Kd.R_drewN | apply Kd.R_drew)); exact HO_7.out) hb); have n1_ := Aside0.mk (Kd.R_elder' (by (with_reducible repeat (first | apply Kd.R_alloc | apply Kd.R_drewN | apply Kd.R_drew)); exact HO_8.out) (Kd.R_base ho0) hb); have n2_ := Aside0.mk (Kd.R_below (by (with_reducible repeat (first | apply Kd.R_alloc | apply Kd.R_drewN | apply Kd.R_drew)); exact HO994.out) hb); have n3_ := Aside0.mk (Kd.R_lower (Kd.R_new' ho0 (Kd.R_lt (by (with_reducible repeat (first | apply Kd.R_alloc | apply Kd.R_drewN | apply Kd.R_drew)); exact HO_8.out))) (below_size (by repeat (first | (with_reducible first | exact HB.out | apply below_alloc | apply pw_below_drewN | apply below_drew1) | exact HB.out)))); have n4_ := Aside0.mk (below_step (by repeat (first | (with_reducible first | exact HB.out | apply below_alloc | apply pw_below_drewN | apply below_drew1) | exact HB.out)) hb); clear HO_7; clear HO_8; clear HO994; clear HB; have HO_7 := n0_; have HO_8 := n1_; have HO994 := n2_; have HO999 := n3_; have HB := n4_; clear n0_ n1_ n2_ n3_ n4_; (try clear hb); (try clear hb2); (try clear hk); (try clear hi); (try clear ho0); obtain ⟨Ao53, co53, eo53⟩ := Kd.R_slice HO994.out; subst eo53) | ((with_reducible refine gate_callee (f := 23) rfl ?_); refine goesL_ (some 47) rfl rfl Tryd.func23 (by kernel_rfl) rfl #[.slice AR996 t995.length cR996, .int .i64 1, .slice Ao53 y992.length co53] rfl (by (try simp only [List.map_toArray, List.map_cons, List.map_nil]); first | done | rfl | (simp only [List.length_drop, List.length_take]; rfl)) ?_; (with_reducible refine (transit_Seals.calls _ _ t995 1 _ _ y992 t1000 _ ?side1 ?side2 ?side3 ?side4 A19.out).mono ?_); (case side1 => repeat (first | exact (Kd.C_below HR996.out HB.out) | (with_reducible refine Kd.C_alloc ?_ _) | (with_reducible refine Kd.C_drewN ?_ _) | (with_reducible refine Kd.C_drew ?_))); (case side2 => exact HC996.out); (case side3 => repeat (first | exact (Kd.R_reads' HO994.out).2.2 | (with_reducible refine Kd.C_alloc ?_ _) | (with_reducible refine Kd.C_drewN ?_ _) | (with_reducible refine Kd.C_drew ?_))); (case side4 => exact (Kd.R_reads' HO994.out).2.1); rintro e w54 ⟨v1001, rfl, ho0, hb⟩; refine ⟨_, rfl, ?_⟩; have n0_ := Aside0.mk (Kd.R_below (by (with_reducible repeat (first | apply Kd.R_alloc | apply Kd.R_drewN | apply Kd.R_drew)); exact HO_7.out) hb); have n1_ := Aside0.mk (Kd.R_elder' (by (with_reducible repeat (first | apply Kd.R_alloc | apply Kd.R_drewN | apply Kd.R_drew)); exact HO_8.out) (Kd.R_base ho0) hb); have n2_ := Aside0.mk (Kd.R_below (by (with_reducible repeat (first | apply Kd.R_alloc | apply Kd.R_drewN | apply Kd.R_drew)); exact HO994.out) hb); have n3_ := Aside0.mk (Kd.R_elder' (by (with_reducible repeat (first | apply Kd.R_alloc | apply Kd.R_drewN | apply Kd.R_drew)); exact HO999.out) (Kd.R_base ho0) hb); have n4_ := Aside0.mk (Kd.R_lower (Kd.R_new' (Kd.R_new' ho0 (Kd.R_lt (by (with_reducible repeat (first | apply Kd.R_alloc | apply Kd.R_drewN | apply Kd.R_drew)); exact HO_8.out))) (Kd.R_lt (by (with_reducible repeat (first | apply Kd.R_alloc | apply Kd.R_drewN | apply Kd.R_drew)); exact HO999.out))) (below_size (by repeat (first | (with_reducible first | exact HB.out | apply below_alloc | apply pw_below_drewN | apply below_drew1) | exact HB.out)))); have n5_ := Aside0.mk (below_step (by repeat (first | (with_reducible first | exact HB.out | apply below_alloc | apply pw_below_drewN | apply below_drew1) | exact HB.out)) hb); clear HO_7; clear HO_8; clear HO994; clear HO999; clear HB; have HO_7 := n0_; have HO_8 := n1_; have HO994 := n2_; have HO999 := n3_; have HO1002 := n4_; have HB := n5_; clear n0_ n1_ n2_ n3_ n4_ n5_; (try clear hb); (try clear hb2); (try clear hk); (try clear hi); (try clear ho0); obtain ⟨Ao55, co55, eo55⟩ := Kd.R_slice HO999.out; subst eo55; obtain ⟨Ao56, co56, eo56⟩ := Kd.R_slice HO1002.out; subst eo56) | ((with_reducible refine gate_callee (f := 20) rfl ?_); refine goesL_ (some 51) rfl rfl Tryd.func20 (by kernel_rfl) rfl #[.slice Ao55 t997.length co55, .slice Ao56 t1000.length co56] rfl (by (try simp only [List.map_toArray, List.map_cons, List.map_nil]); first | done | rfl | (simp only [List.length_drop, List.length_take]; rfl)) ?_; (with_reducible refine (transit_Compare.calls _ _ t997 _ _ t1000 t1003 t1004 _ ?side1 ?side2 ?side3 ?side4 A20.out).mono ?_); (case side1 => repeat (first | exact (Kd.R_reads' HO999.out).2.2 | (with_reducible refine Kd.C_alloc ?_ _) | (with_reducible refine Kd.C_drewN ?_ _) | (with_reducible refine Kd.C_drew ?_))); (case side2 => exact (Kd.R_reads' HO999.out).2.1); (case side3 => repeat (first | exact (Kd.R_reads' HO1002.out).2.2 | (with_reducible refine Kd.C_alloc ?_ _) | (with_reducible refine Kd.C_drewN ?_ _) | (with_reducible refine Kd.C_drew ?_))); (case side4 => exact (Kd.R_reads' HO1002.out).2.1); rintro e w57 ⟨v1005, v1007, rfl, ho0, ho1, hb⟩; refine ⟨_, rfl, ?_⟩; have n0_ := Aside0.mk (Kd.R_below (by (with_reducible repeat (first | apply Kd.R_alloc | apply Kd.R_drewN | apply Kd.R_drew)); exact HO_7.out) hb); have n1_ := Aside0.mk (Kd.R_mono (Kd.R_told (Kd.R_told (Kd.R_old (by (with_reducible repeat (first | apply Kd.R_alloc | apply Kd.R_drewN | apply Kd.R_drew)); exact HO_8.out) hb) (Kd.R_base ho0)) (Kd.R_base ho1)) (fun _ h_ => h_.1)); have n2_ := Aside0.mk (Kd.R_below (by (with_reducible repeat (first | apply Kd.R_alloc | apply Kd.R_drewN | apply Kd.R_drew)); exact HO994.out) hb); have n3_ := Aside0.mk (Kd.R_mono (Kd.R_told (Kd.R_told (Kd.R_old (by (with_reducible repeat (first | apply Kd.R_alloc | apply Kd.R_drewN | apply Kd.R_drew)); exact HO999.out) hb) (Kd.R_base ho0)) (Kd.R_base ho1)) (fun _ h_ => h_.1)); have n4_ := Aside0.mk (Kd.R_mono (Kd.R_told (Kd.R_told (Kd.R_old (by (with_reducible repeat (first | apply Kd.R_alloc | apply Kd.R_drewN | apply Kd.R_drew)); exact HO1002.out) hb) (Kd.R_base ho0)) (Kd.R_base ho1)) (fun _ h_ => h_.1)); have n5_ := Aside0.mk (Kd.R_lower (Kd.R_new' (Kd.R_new' (Kd.R_new' ho0 (Kd.R_lt (by (with_reducible repeat (first | apply Kd.R_alloc | apply Kd.R_drewN | apply Kd.R_drew)); exact HO_8.out))) (Kd.R_lt (by (with_reducible repeat (first | apply Kd.R_alloc | apply Kd.R_drewN | apply Kd.R_drew)); exact HO999.out))) (Kd.R_lt (by (with_reducible repeat (first | apply Kd.R_alloc | apply Kd.R_drewN | apply Kd.R_drew)); exact HO1002.out))) (below_size (by repeat (first | (with_reducible first | exact HB.out | apply below_alloc | apply pw_below_drewN | apply below_drew1) | exact HB.out)))); have n6_ := Aside0.mk (Kd.R_lower (Kd.R_new' (Kd.R_new' (Kd.R_new' ho1 (Kd.R_lt (by (with_reducible repeat (first | apply Kd.R_alloc | apply Kd.R_drewN | apply Kd.R_drew)); exact HO_8.out))) (Kd.R_lt (by (with_reducible repeat (first | apply Kd.R_alloc | apply Kd.R_drewN | apply Kd.R_drew)); exact HO999.out))) (Kd.R_lt (by (with_reducible repeat (first | apply Kd.R_alloc | apply Kd.R_drewN | apply Kd.R_drew)); exact HO1002.out))) (below_size (by repeat (first | (with_reducible first | exact HB.out | apply below_alloc | apply pw_below_drewN | apply below_drew1) | exact HB.out)))); have n7_ := Aside0.mk (below_step (by repeat (first | (with_reducible first | exact HB.out | apply below_alloc | apply pw_below_drewN | apply below_drew1) | exact HB.out)) hb); clear HO_7; clear HO_8; clear HO994; clear HO999; clear HO1002; clear HB; have HO_7 := n0_; have HO_8 := n1_; have HO994 := n2_; have HO999 := n3_; have HO1002 := n4_; have HO1006 := n5_; have HO1008 := n6_; have HB := n7_; clear n0_ n1_ n2_ n3_ n4_ n5_ n6_ n7_; (try clear hb); (try clear hb2); (try clear hk); (try clear hi); (try clear ho0); (try clear ho1)) | ((with_reducible refine gate_callee (f := 22) rfl ?_); refine goesL_ (some 56) rfl rfl Tryd.func22 (by kernel_rfl) rfl #[.slice Ao55 t997.length co55, .slice Ao56 t1000.length co56] rfl (by (try simp only [List.map_toArray, List.map_cons, List.map_nil]); first | done | rfl | (simp only [List.length_drop, List.length_take]; rfl)) ?_; (with_reducible refine (customsref33_SameInts.calls k1 _ _ t997 _ _ t1000 true _ ?side1 ?side2 ?side3 ?side4 A21.out).mono ?_); (case side1 => repeat (first | exact (Kd.R_reads' HO999.out).2.2 | (with_reducible refine Kd.C_alloc ?_ _) | (with_reducible refine Kd.C_drewN ?_ _) | (with_reducible refine Kd.C_drew ?_))); (case side2 => exact (Kd.R_reads' HO999.out).2.1); (case side3 => repeat (first | exact (Kd.R_reads' HO1002.out).2.2 | (with_reducible refine Kd.C_alloc ?_ _) | (with_reducible refine Kd.C_drewN ?_ _) | (with_reducible refine Kd.C_drew ?_))); (case side4 => exact (Kd.R_reads' HO1002.out).2.1); rintro e w' ⟨rfl, ⟨nd, rfl⟩⟩; refine ⟨_, rfl, ?_⟩; obtain ⟨Ao58, co58, eo58⟩ := Kd.R_slice HO1006.out; subst eo58))
       go_ret
       exact ⟨by first | rfl | (simp [errW_none, errW_some] <;> rfl) | (simp [*, errW_none, errW_some] <;> rfl), by repeat (first | (with_reducible first | exact HB.out | apply below_alloc | apply pw_below_drewN | apply below_drew1) | exact HB.out)⟩
     ·
      replace c22 := Bool.eq_false_iff.mpr c22
      subst c22
      have H1 : (some false) = some r := by rw [if_neg (show ¬ (false = true) by decide)] at H; exact H
      clear H
      have H := H1
      clear H1
      obtain rfl := Option.some.inj H
      obtain ⟨Ao59, co59, eo59⟩ := Kd.R_slice HO_8.out
      subst eo59
      go_wp2_with (first | ((with_reducible refine gate_builtin (b := .append) (xs := #[.tmp 37, .tmp 38]) rfl ?_); (try (refine gate_guard (by rfl) ?_; dsimp only)); at_builtin; refine Kd.R_append_rows k53 (w0 := w) w.heap.size rfl (.tmp 37) (.tmp 38) 44 53 (.agg #[(.int .i64 0), (.int .i64 0), (.int .i64 0), (.int .i64 0), (.int .i64 0)]) 40 rfl Tryd.underlying44 info53 rfl (by decide) (by omega) u9 x9_1 t981 _ _ _ (fun k_ => some k_ ≠ (.slice Ao7 t981.length co7 : Value).ownBlock) (fun _ => False) rfl rfl ?aO ?aR (fun _ _ h => h) (fun _ h => h.elim) ?aF ?aB ?aS ?aL ?_; (case aR => repeat (first | exact (Kd.R_reads' HO_7.out).2.2 | (with_reducible refine Kd.C_alloc ?_ _) | (with_reducible refine Kd.C_drewN ?_ _) | (with_reducible refine Kd.C_drew ?_))); (case aB => exact (by repeat (first | (with_reducible first | exact HB.out | apply below_alloc | apply pw_below_drewN | apply below_drew1) | exact HB.out))); (case aF => exact (fun k_ hk => Kd.fresh' (Kd.R_lt (by (with_reducible repeat (first | apply Kd.R_alloc | apply Kd.R_drewN | apply Kd.R_drew)); exact HO_7.out)) k_ hk)); (case aO => exact (by (with_reducible repeat (first | apply Kd.R_alloc | apply Kd.R_drewN | apply Kd.R_drew)); exact HO_9.out)); (case aS => exact (below_size (by repeat (first | (with_reducible first | exact HB.out | apply below_alloc | apply pw_below_drewN | apply below_drew1) | exact HB.out)))); (case aL => have := LMc16.out; omega); intro v993 w60 ho hb hg hat; rw [← Ny992.out] at ho; have n0_ := Aside0.mk (Kd.R_after (ok := (fun _ => True)) (by (with_reducible repeat (first | apply Kd.R_alloc | apply Kd.R_drewN | apply Kd.R_drew)); exact Kd.R_mono HO_7.out (fun _ hk => ⟨trivial, hk⟩)) hg hat); have n1_ := Aside0.mk (Kd.R_over' (by (with_reducible repeat (first | apply Kd.R_alloc | apply Kd.R_drewN | apply Kd.R_drew)); exact HO_8.out) (Kd.R_typed (by (with_reducible repeat (first | apply Kd.R_alloc | apply Kd.R_drewN | apply Kd.R_drew)); exact HO_9.out)) (by decide) hg); have n2_ := Aside0.mk (hb); have n3_ := Aside0.mk (ho); clear HO_7; clear HO_8; clear HB; clear HO_9; have HO_7 := n0_; have HO_8 := n1_; have HB := n2_; have HO994 := n3_; clear n0_ n1_ n2_ n3_; clear ho hb hg hat) | ((with_reducible refine gate_callee (f := 26) rfl ?_); refine goesL_ (some 41) rfl rfl Tryd.func26 (by kernel_rfl) rfl #[.slice A1 l1.length c1, .int .i64 8] rfl (by (try simp only [List.map_toArray, List.map_cons, List.map_nil]); first | done | rfl | (simp only [List.length_drop, List.length_take]; rfl)) ?_; (with_reducible refine (customsmade_Cut.reads _ _ l1 8 t995 _ ?side1 ?side2 A17.out).mono ?_); (case side1 => repeat (first | exact (Kd.C_below HR1.out HB.out) | (with_reducible refine Kd.C_alloc ?_ _) | (with_reducible refine Kd.C_drewN ?_ _) | (with_reducible refine Kd.C_drew ?_))); (case side2 => exact HC1.out); rintro e w61 ⟨AR996, cR996, rfl, hr, hc, hb⟩; refine ⟨_, rfl, ?_⟩; have n0_ := Aside0.mk (Kd.R_below (by (with_reducible repeat (first | apply Kd.R_alloc | apply Kd.R_drewN | apply Kd.R_drew)); exact HO_7.out) hb); have n1_ := Aside0.mk (Kd.R_below (by (with_reducible repeat (first | apply Kd.R_alloc | apply Kd.R_drewN | apply Kd.R_drew)); exact HO_8.out) hb); have n2_ := Aside0.mk (Kd.R_below (by (with_reducible repeat (first | apply Kd.R_alloc | apply Kd.R_drewN | apply Kd.R_drew)); exact HO994.out) hb); have n3_ := Aside0.mk (below_step (by repeat (first | (with_reducible first | exact HB.out | apply below_alloc | apply pw_below_drewN | apply below_drew1) | exact HB.out)) hb); have n4_ := Aside0.mk (hr _ HR1.out); have n5_ := Aside0.mk (hc); clear HO_7; clear HO_8; clear HO994; clear HB; have HO_7 := n0_; have HO_8 := n1_; have HO994 := n2_; have HB := n3_; have HR996 := n4_; have HC996 := n5_; clear n0_ n1_ n2_ n3_ n4_ n5_; (try clear hb); (try clear hr); (try clear hc)) | ((with_reducible refine gate_callee (f := 23) rfl ?_); refine goesL_ (some 44) rfl rfl Tryd.func23 (by kernel_rfl) rfl #[.slice AR996 t995.length cR996, .int .i64 1, .slice Ao7 t981.length co7] rfl (by (try simp only [List.map_toArray, List.map_cons, List.map_nil]); first | done | rfl | (simp only [List.length_drop, List.length_take]; rfl)) ?_; (with_reducible refine (transit_Seals.calls _ _ t995 1 _ _ t981 t997 _ ?side1 ?side2 ?side3 ?side4 A18.out).mono ?_); (case side1 => repeat (first | exact (Kd.C_below HR996.out HB.out) | (with_reducible refine Kd.C_alloc ?_ _) | (with_reducible refine Kd.C_drewN ?_ _) | (with_reducible refine Kd.C_drew ?_))); (case side2 => exact HC996.out); (case side3 => repeat (first | exact (Kd.R_reads' HO_7.out).2.2 | (with_reducible refine Kd.C_alloc ?_ _) | (with_reducible refine Kd.C_drewN ?_ _) | (with_reducible refine Kd.C_drew ?_))); (case side4 => exact (Kd.R_reads' HO_7.out).2.1); rintro e w62 ⟨v998, rfl, ho0, hb⟩; refine ⟨_, rfl, ?_⟩; have n0_ := Aside0.mk (Kd.R_below (by (with_reducible repeat (first | apply Kd.R_alloc | apply Kd.R_drewN | apply Kd.R_drew)); exact HO_7.out) hb); have n1_ := Aside0.mk (Kd.R_elder' (by (with_reducible repeat (first | apply Kd.R_alloc | apply Kd.R_drewN | apply Kd.R_drew)); exact HO_8.out) (Kd.R_base ho0) hb); have n2_ := Aside0.mk (Kd.R_below (by (with_reducible repeat (first | apply Kd.R_alloc | apply Kd.R_drewN | apply Kd.R_drew)); exact HO994.out) hb); have n3_ := Aside0.mk (Kd.R_lower (Kd.R_new' ho0 (Kd.R_lt (by (with_reducible repeat (first | apply Kd.R_alloc | apply Kd.R_drewN | apply Kd.R_drew)); exact HO_8.out))) (below_size (by repeat (first | (with_reducible first | exact HB.out | apply below_alloc | apply pw_below_drewN | apply below_drew1) | exact HB.out)))); have n4_ := Aside0.mk (below_step (by repeat (first | (with_reducible first | exact HB.out | apply below_alloc | apply pw_below_drewN | apply below_drew1) | exact HB.out)) hb); clear HO_7; clear HO_8; clear HO994; clear HB; have HO_7 := n0_; have HO_8 := n1_; have HO994 := n2_; have HO999 := n3_; have HB := n4_; clear n0_ n1_ n2_ n3_ n4_; (try clear hb); (try clear hb2); (try clear hk); (try clear hi); (try clear ho0); obtain ⟨Ao63, co63, eo63⟩ := Kd.R_slice HO994.out; subst eo63) | ((with_reducible refine gate_callee (f := 23) rfl ?_); refine goesL_ (some 47) rfl rfl Tryd.func23 (by kernel_rfl) rfl #[.slice AR996 t995.length cR996, .int .i64 1, .slice Ao63 y992.length co63] rfl (by (try simp only [List.map_toArray, List.map_cons, List.map_nil]); first | done | rfl | (simp only [List.length_drop, List.length_take]; rfl)) ?_; (with_reducible refine (transit_Seals.calls _ _ t995 1 _ _ y992 t1000 _ ?side1 ?side2 ?side3 ?side4 A19.out).mono ?_); (case side1 => repeat (first | exact (Kd.C_below HR996.out HB.out) | (with_reducible refine Kd.C_alloc ?_ _) | (with_reducible refine Kd.C_drewN ?_ _) | (with_reducible refine Kd.C_drew ?_))); (case side2 => exact HC996.out); (case side3 => repeat (first | exact (Kd.R_reads' HO994.out).2.2 | (with_reducible refine Kd.C_alloc ?_ _) | (with_reducible refine Kd.C_drewN ?_ _) | (with_reducible refine Kd.C_drew ?_))); (case side4 => exact (Kd.R_reads' HO994.out).2.1); rintro e w64 ⟨v1001, rfl, ho0, hb⟩; refine ⟨_, rfl, ?_⟩; have n0_ := Aside0.mk (Kd.R_below (by (with_reducible repeat (first | apply Kd.R_alloc | apply Kd.R_drewN | apply Kd.R_drew)); exact HO_7.out) hb); have n1_ := Aside0.mk (Kd.R_elder' (by (with_reducible repeat (first | apply Kd.R_alloc | apply Kd.R_drewN | apply Kd.R_drew)); exact HO_8.out) (Kd.R_base ho0) hb); have n2_ := Aside0.mk (Kd.R_below (by (with_reducible repeat (first | apply Kd.R_alloc | apply Kd.R_drewN | apply Kd.R_drew)); exact HO994.out) hb); have n3_ := Aside0.mk (Kd.R_elder' (by (with_reducible repeat (first | apply Kd.R_alloc | apply Kd.R_drewN | apply Kd.R_drew)); exact HO999.out) (Kd.R_base ho0) hb); have n4_ := Aside0.mk (Kd.R_lower (Kd.R_new' (Kd.R_new' ho0 (Kd.R_lt (by (with_reducible repeat (first | apply Kd.R_alloc | apply Kd.R_drewN | apply Kd.R_drew)); exact HO_8.out))) (Kd.R_lt (by (with_reducible repeat (first | apply Kd.R_alloc | apply Kd.R_drewN | apply Kd.R_drew)); exact HO999.out))) (below_size (by repeat (first | (with_reducible first | exact HB.out | apply below_alloc | apply pw_below_drewN | apply below_drew1) | exact HB.out)))); have n5_ := Aside0.mk (below_step (by repeat (first | (with_reducible first | exact HB.out | apply below_alloc | apply pw_below_drewN | apply below_drew1) | exact HB.out)) hb); clear HO_7; clear HO_8; clear HO994; clear HO999; clear HB; have HO_7 := n0_; have HO_8 := n1_; have HO994 := n2_; have HO999 := n3_; have HO1002 := n4_; have HB := n5_; clear n0_ n1_ n2_ n3_ n4_ n5_; (try clear hb); (try clear hb2); (try clear hk); (try clear hi); (try clear ho0); obtain ⟨Ao65, co65, eo65⟩ := Kd.R_slice HO999.out; subst eo65; obtain ⟨Ao66, co66, eo66⟩ := Kd.R_slice HO1002.out; subst eo66) | ((with_reducible refine gate_callee (f := 20) rfl ?_); refine goesL_ (some 51) rfl rfl Tryd.func20 (by kernel_rfl) rfl #[.slice Ao65 t997.length co65, .slice Ao66 t1000.length co66] rfl (by (try simp only [List.map_toArray, List.map_cons, List.map_nil]); first | done | rfl | (simp only [List.length_drop, List.length_take]; rfl)) ?_; (with_reducible refine (transit_Compare.calls _ _ t997 _ _ t1000 t1003 t1004 _ ?side1 ?side2 ?side3 ?side4 A20.out).mono ?_); (case side1 => repeat (first | exact (Kd.R_reads' HO999.out).2.2 | (with_reducible refine Kd.C_alloc ?_ _) | (with_reducible refine Kd.C_drewN ?_ _) | (with_reducible refine Kd.C_drew ?_))); (case side2 => exact (Kd.R_reads' HO999.out).2.1); (case side3 => repeat (first | exact (Kd.R_reads' HO1002.out).2.2 | (with_reducible refine Kd.C_alloc ?_ _) | (with_reducible refine Kd.C_drewN ?_ _) | (with_reducible refine Kd.C_drew ?_))); (case side4 => exact (Kd.R_reads' HO1002.out).2.1); rintro e w67 ⟨v1005, v1007, rfl, ho0, ho1, hb⟩; refine ⟨_, rfl, ?_⟩; have n0_ := Aside0.mk (Kd.R_below (by (with_reducible repeat (first | apply Kd.R_alloc | apply Kd.R_drewN | apply Kd.R_drew)); exact HO_7.out) hb); have n1_ := Aside0.mk (Kd.R_mono (Kd.R_told (Kd.R_told (Kd.R_old (by (with_reducible repeat (first | apply Kd.R_alloc | apply Kd.R_drewN | apply Kd.R_drew)); exact HO_8.out) hb) (Kd.R_base ho0)) (Kd.R_base ho1)) (fun _ h_ => h_.1)); have n2_ := Aside0.mk (Kd.R_below (by (with_reducible repeat (first | apply Kd.R_alloc | apply Kd.R_drewN | apply Kd.R_drew)); exact HO994.out) hb); have n3_ := Aside0.mk (Kd.R_mono (Kd.R_told (Kd.R_told (Kd.R_old (by (with_reducible repeat (first | apply Kd.R_alloc | apply Kd.R_drewN | apply Kd.R_drew)); exact HO999.out) hb) (Kd.R_base ho0)) (Kd.R_base ho1)) (fun _ h_ => h_.1)); have n4_ := Aside0.mk (Kd.R_mono (Kd.R_told (Kd.R_told (Kd.R_old (by (with_reducible repeat (first | apply Kd.R_alloc | apply Kd.R_drewN | apply Kd.R_drew)); exact HO1002.out) hb) (Kd.R_base ho0)) (Kd.R_base ho1)) (fun _ h_ => h_.1)); have n5_ := Aside0.mk (Kd.R_lower (Kd.R_new' (Kd.R_new' (Kd.R_new' ho0 (Kd.R_lt (by (with_reducible repeat (first | apply Kd.R_alloc | apply Kd.R_drewN | apply Kd.R_drew)); exact HO_8.out))) (Kd.R_lt (by (with_reducible repeat (first | apply Kd.R_alloc | apply Kd.R_drewN | apply Kd.R_drew)); exact HO999.out))) (Kd.R_lt (by (with_reducible repeat (first | apply Kd.R_alloc | apply Kd.R_drewN | apply Kd.R_drew)); exact HO1002.out))) (below_size (by repeat (first | (with_reducible first | exact HB.out | apply below_alloc | apply pw_below_drewN | apply below_drew1) | exact HB.out)))); have n6_ := Aside0.mk (Kd.R_lower (Kd.R_new' (Kd.R_new' (Kd.R_new' ho1 (Kd.R_lt (by (with_reducible repeat (first | apply Kd.R_alloc | apply Kd.R_drewN | apply Kd.R_drew)); exact HO_8.out))) (Kd.R_lt (by (with_reducible repeat (first | apply Kd.R_alloc | apply Kd.R_drewN | apply Kd.R_drew)); exact HO999.out))) (Kd.R_lt (by (with_reducible repeat (first | apply Kd.R_alloc | apply Kd.R_drewN | apply Kd.R_drew)); exact HO1002.out))) (below_size (by repeat (first | (with_reducible first | exact HB.out | apply below_alloc | apply pw_below_drewN | apply below_drew1) | exact HB.out)))); have n7_ := Aside0.mk (below_step (by repeat (first | (with_reducible first | exact HB.out | apply below_alloc | apply pw_below_drewN | apply below_drew1) | exact HB.out)) hb); clear HO_7; clear HO_8; clear HO994; clear HO999; clear HO1002; clear HB; have HO_7 := n0_; have HO_8 := n1_; have HO994 := n2_; have HO999 := n3_; have HO1002 := n4_; have HO1006 := n5_; have HO1008 := n6_; have HB := n7_; clear n0_ n1_ n2_ n3_ n4_ n5_ n6_ n7_; (try clear hb); (try clear hb2); (try clear hk); (try clear hi); (try clear ho0); (try clear ho1)) | ((with_reducible refine gate_callee (f := 22) rfl ?_); refine goesL_ (some 56) rfl rfl Tryd.func22 (by kernel_rfl) rfl #[.slice Ao65 t997.length co65, .slice Ao66 t1000.length co66] rfl (by (try simp only [List.map_toArray, List.map_cons, List.map_nil]); first | done | rfl | (simp only [List.length_drop, List.length_take]; rfl)) ?_; (with_reducible refine (customsref33_SameInts.calls k1 _ _ t997 _ _ t1000 false _ ?side1 ?side2 ?side3 ?side4 A21.out).mono ?_); (case side1 => repeat (first | exact (Kd.R_reads' HO999.out).2.2 | (with_reducible refine Kd.C_alloc ?_ _) | (with_reducible refine Kd.C_drewN ?_ _) | (with_reducible refine Kd.C_drew ?_))); (case side2 => exact (Kd.R_reads' HO999.out).2.1); (case side3 => repeat (first | exact (Kd.R_reads' HO1002.out).2.2 | (with_reducible refine Kd.C_alloc ?_ _) | (with_reducible refine Kd.C_drewN ?_ _) | (with_reducible refine Kd.C_drew ?_))); (case side4 => exact (Kd.R_reads' HO1002.out).2.1); rintro e w' ⟨rfl, ⟨nd, rfl⟩⟩; refine ⟨_, rfl, ?_⟩))
      go_ret
      exact ⟨by first | rfl | (simp [errW_none, errW_some] <;> rfl) | (simp [*, errW_none, errW_some] <;> rfl), by repeat (first | (with_reducible first | exact HB.out | apply below_alloc | apply pw_below_drewN | apply below_drew1) | exact HB.out)⟩
    ·
     rw [if_neg c16] at H
     exact absurd H (by simp)

/-- THE ONE PURE STATEMENT of customslaw35_TransitBelief: yours. -/
def customslaw35_TransitBelief.Pure : Prop := ∀ (l0 : List Int) (l1 : List Int) (l2 : List Int), l0.length ≤ maxLen → l0.length * 8 ≤ 140737488351232 → (∀ x ∈ l0, (Lit.int .i64 x).wf = true) → l1.length ≤ maxLen → l1.length * 8 ≤ 140737488351232 → (∀ x ∈ l1, (Lit.int .i64 x).wf = true) → l2.length ≤ maxLen → l2.length * 8 ≤ 140737488351232 → (∀ x ∈ l2, (Lit.int .i64 x).wf = true) → ∃ k, customslaw35_TransitBelief.f k l0 l1 l2 = some true
theorem customslaw35_TransitBelief.walk (P : customslaw35_TransitBelief.Pure) (a0 : Option Addr) (len0 cap0 : Nat) (z0 : List Int) (a1 : Option Addr) (len1 cap1 : Nat) (z1 : List Int) (a2 : Option Addr) (len2 cap2 : Nat) (z2 : List Int) (w : World) (hG_changes : GL_changes w) (w0 : (a0 = none ∧ len0 = 0 ∧ cap0 = 0 ∧ z0 = []) ∨ ∃ x, a0 = some x ∧ len0 ≤ cap0 ∧ cap0 ≤ maxLen ∧ z0.length = cap0 ∧ (∀ i, i < z0.length → w.cell? (x.add i) = some (.int .i64 (z0.getD i 0))) ∧ ∀ n ∈ z0, (Lit.int .i64 n).wf = true) (y0 : len0 * 8 ≤ 140737488351232) (w1 : (a1 = none ∧ len1 = 0 ∧ cap1 = 0 ∧ z1 = []) ∨ ∃ x, a1 = some x ∧ len1 ≤ cap1 ∧ cap1 ≤ maxLen ∧ z1.length = cap1 ∧ (∀ i, i < z1.length → w.cell? (x.add i) = some (.int .i64 (z1.getD i 0))) ∧ ∀ n ∈ z1, (Lit.int .i64 n).wf = true) (y1 : len1 * 8 ≤ 140737488351232) (w2 : (a2 = none ∧ len2 = 0 ∧ cap2 = 0 ∧ z2 = []) ∨ ∃ x, a2 = some x ∧ len2 ≤ cap2 ∧ cap2 ≤ maxLen ∧ z2.length = cap2 ∧ (∀ i, i < z2.length → w.cell? (x.add i) = some (.int .i64 (z2.getD i 0))) ∧ ∀ n ∈ z2, (Lit.int .i64 n).wf = true) (y2 : len2 * 8 ≤ 140737488351232) :
  Calls Tryd.prog 6 #[.slice a0 len0 cap0, .slice a1 len1 cap1, .slice a2 len2 cap2] w fun e w' => e = .returned (.bool true) ∧ Below w.heap.size w w' := by
 obtain ⟨l0, rfl, hr0, hm0, hw0, hc0⟩ := ReadsInt.ofRowC w0
 obtain ⟨l1, rfl, hr1, hm1, hw1, hc1⟩ := ReadsInt.ofRowC w1
 obtain ⟨l2, rfl, hr2, hm2, hw2, hc2⟩ := ReadsInt.ofRowC w2
 obtain ⟨k, h⟩ := P l0 l1 l2 hm0 y0 hw0 hm1 y1 hw1 hm2 y2 hw2
 refine (customslaw35_TransitBelief.calls k _ _ l0 _ _ l1 _ _ l2 true w (Kd.C_of_reads (d := (0 : Int)) (h1 := fun _ => rfl) hr0) hc0 (Kd.C_of_reads (d := (0 : Int)) (h1 := fun _ => rfl) hr1) hc1 (Kd.C_of_reads (d := (0 : Int)) (h1 := fun _ => rfl) hr2) hc2 hG_changes h).mono ?_
 rintro e w' ⟨rfl, hd⟩
 exact ⟨rfl, hd⟩

end Go.Proofs.YtbndoihcejieoaaDoor.G
