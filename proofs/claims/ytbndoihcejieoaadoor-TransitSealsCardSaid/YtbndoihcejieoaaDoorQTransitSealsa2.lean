/-
  Functions of the program and of the references as plain Lean functions, each with a proof that the machine's call comes to what it answers. Conditions: what each contract states.
-/
import Derived.Test.YtbndoihcejieoaaDoorQCorew1
import Derived.Test.YtbndoihcejieoaaDoorQCorev1
import Derived.Test.YtbndoihcejieoaaDoorQCorea1
import Derived.Test.YtbndoihcejieoaaDoorQCorea2
import Derived.Test.YtbndoihcejieoaaDoorQCorea3
import Derived.Test.YtbndoihcejieoaaDoorQTransitSealsa1
namespace Go.Proofs.YtbndoihcejieoaaDoor.G
open Go.RowKit Go.Proofs.YtbndoihcejieoaaDoorW.PrintWords Go.Proofs.YtbndoihcejieoaaDoorW.PrintLast Go.Proofs.YtbndoihcejieoaaDoorW.PrintMore
attribute [local go_sem] max2_int min2_int max_two min_two max_three min_three max_four min_four   -- for this text's walks alone
set_option linter.unusedVariables false
set_option linter.unusedSimpArgs false

def seals_T7 : Bool × List (List Nat × List Nat) := (true, [([], []), ([], []), ([1], [1]), ([2], [2]), ([0, 3], [0, 3]), ([], []), ([], []), ([6], [6]), ([7], [7]), ([5, 8, 4], [5, 8]), ([4, 9, 0, 1, 2, 3, 4], [0, 4]), ([9, 10, 0, 1, 2, 3, 4, 5, 6, 7, 8, 9, 10], [9])])
def seals_B7 : List Nat := [0, 0, 2, 6, 15, 0, 0, 64, 192, 511, 1023, 2047]
theorem seals_tab7 : rtab .any (opsOf Tryd.f23 7) = seals_T7 := by kernel_rfl
theorem seals_bits7 : waitsOk seals_T7.2 seals_B7 = true := by kernel_rfl
theorem R_empty (a : Int) (w : World) (B : Nat) (P : Nat → Prop) : Kd.R (Kd.int .i64) 3 w B P (.slice none 0 0) (remL a []) := by
 exact Kd.R_nil (Kd.int .i64) 3 w B P
set_option maxHeartbeats 8000000 in
set_option maxRecDepth 100000 in
theorem seals_calls (A0 : Option Addr) (c0 : Nat) (l0 : List Int) (a1 : Int) (A2 : Option Addr) (c2 : Nat) (l2 : List S53) (w : World) (hr0 : Kd.C (Kd.int .i64) w A0 l0.length l0) (hc0 : l0.length ≤ c0) (hr2 : Kd.C k53 w A2 l2.length l2) (hc2 : l2.length ≤ c2) (hl : l0.length + l2.length < 5000000000000) :
  Calls Tryd.prog 23 #[.slice A0 l0.length c0, .int .i64 a1, .slice A2 l2.length c2] w fun e w' => ∃ v0_ : Value, e = .returned (v0_) ∧ Kd.R (Kd.int .i64) 3 w' w.heap.size (fun _ => True) v0_ (sealsL l0 a1 l2) ∧ Below w.heap.size w w' := by
 have HR0 := Aside0.mk hr0
 have HC0 := Aside0.mk hc0
 have HR2 := Aside0.mk hr2
 have HC2 := Aside0.mk hc2
 have HL := Aside0.mk hl
 have hb := hr2.2.1
 clear hr0 hc0 hr2 hc2 hl
 have hu53 := Tryd.underlying53
 go_enter Tryd.func23, Tryd.ntmps23
 go_wp2_with (first
  | (go_at_call 43; refine (slices_Clone_int_int.calls A0 c0 l0 l0 w HR0.out HC0.out (clone_fits (by have := HL.out; omega))).mono ?_; rintro e w1 ⟨u0, rfl, ho, hb⟩; have O1 := Aside0.mk ho; have B1 := Aside0.mk hb; clear ho hb)
  | ((with_reducible refine gate_dst (N := 8) rfl ?_); refine box_event rfl (N := 8) rfl (cs := #[.slice none 0 0]) (t := 25) ?hr ?_; (case hr => first | (go_simp; done) | (go_simp; rfl)); intro g8 hg w2 h1 b1; have T2 : Aside0 (Two w g8 (.slice none 0 0) w2 u0 (l0 ++ affL a1 (l2.take 0)) (.slice none 0 0) (remL a1 (l2.take 0))) := ⟨⟨h1, by rw [List.take_zero]; exact Kd.R_mono (by simpa [affL] using Kd.R_below O1.out b1) (fun _ _ => by simp [Value.ownBlock]), by rw [List.take_zero]; exact R_empty _ _ _ _, B1.out.trans (b1.mono B1.out.size), by rw [hg]; exact B1.out.size⟩⟩; clear h1 b1 hg O1 B1))
 go_loopw [7, 15] (fun v7 v15 wr => ∃ (i : Nat) (u vr : Value), i ≤ l2.length ∧ u = v7 ∧ v15 = .int .i64 i ∧ Aside0 (Two w g8 vr wr u (l0 ++ affL a1 (l2.take i)) vr (remL a1 (l2.take i)))) (fun v7 v15 _ => l2.length - (intOf v15).toNat)
 case atStart => exact ⟨0, _, _, by omega, rfl, rfl, T2⟩
 case round =>
  obtain ⟨i, u, vr, hi, rfl, rfl, HT⟩ := hrel
  by_cases h1 : i < l2.length
  ·
   have p1 : (i : Int) < l2.length := by omega
   have p0 : (0 : Int) ≤ i := by omega
   obtain ⟨ad, e0, k0, k1, k2, k3, k4⟩ := at_T53 HR2.out (i : Int) p0 p1
   subst e0
   rw [Int.toNat_natCast] at k0 k1 k2 k3 k4
   have EU := Aside0.mk (affL_take a1 l2 i h1)
   have EV := Aside0.mk (remL_take a1 l2 i h1)
   obtain ⟨x, hx⟩ : ∃ x, rd_T53 l2 (i : Int) = x := ⟨_, rfl⟩
   rw [hx] at k0 k1 k2 k3 k4 EU EV
   have LD := Aside0.mk (load53 (W := wr) (x := x) (ad := ad) (m := i * 5) ((HT.out.b.cell (World.block_lt_of_cell? w _ k0)).trans k0) ((HT.out.b.cell (World.block_lt_of_cell? w _ k1)).trans k1) ((HT.out.b.cell (World.block_lt_of_cell? w _ k2)).trans k2) ((HT.out.b.cell (World.block_lt_of_cell? w _ k3)).trans k3) ((HT.out.b.cell (World.block_lt_of_cell? w _ k4)).trans k4))
   clear hx k0 k1 k2 k3 k4
   obtain ⟨UL, hU⟩ : ∃ UL, l0 ++ affL a1 (l2.take i) = UL := ⟨_, rfl⟩
   obtain ⟨VL, hV⟩ : ∃ VL, remL a1 (l2.take i) = VL := ⟨_, rfl⟩
   have HUL : Aside0 (UL.length < 5000000000000) := ⟨by rw [← hU, List.length_append]; have h3 := affL_len a1 (l2.take i); rw [List.length_take] at h3; have := HL.out; omega⟩
   have HVL : Aside0 (VL.length < 5000000000000) := ⟨by rw [← hV]; have h3 := remL_len a1 (l2.take i); rw [List.length_take] at h3; have := HL.out; omega⟩
   rw [hU, hV] at HT
   rw [hV] at EV
   by_cases h2 : x.f2 = a1
   ·
    have c2 : (x.f2 == a1) = true := beq_iff_eq.mpr h2
    have EU2 : Aside0 (l0 ++ affL a1 (l2.take (i + 1)) = UL ++ [x.f4]) := ⟨by rw [EU.out, if_pos c2, ← List.append_assoc, hU]⟩
    have EV2 : Aside0 (remL a1 (l2.take (i + 1)) = VL ++ [x.f3]) := ⟨by rw [EV.out, if_pos c2]⟩
    clear h2 EU EV hU hV
    try go_wp2_with (first
     | ((with_reducible refine gate_dst (N := 18) rfl ?_); refine ev_load rfl (N := 18) rfl rfl (q := .pointer (some (ad.add (i * 5)))) (v := .agg (row53 x)) rfl LD.out ?_)
     | ((with_reducible refine gate_dst (N := 10) rfl ?_); refine box_event rfl (N := 10) rfl (cs := #[.int .i64 0, .int .i64 0, .int .i64 0, .int .i64 0, .int .i64 0]) (t := 53) ?hr ?_; (case hr => first | (go_simp; done) | (go_simp; rfl)); intro g10 hg w4 h1 b1; have T4 := Aside0.mk (HT.out.below b1); have X4 := Aside0.mk h1; have N4 := Aside0.mk (show g8 ≠ g10 by have := blk_lt HT.out.r8; omega); have G4 := Aside0.mk (show w.heap.size ≤ g10 by rw [hg]; exact HT.out.b.size); clear h1 b1 hg HT)
     | ((with_reducible refine gate_store (t := 53) (p := 10) rfl ?_); refine ev_store rfl (ty := 53) (p := 10) rfl rfl (q := .pointer (some ⟨g10, 0, none⟩)) (v := .agg (row53 x)) rfl rfl (store53 x X4.out) ?_; intro w5 hF; have T5 := Aside0.mk (T4.out.same10 X4.out N4.out G4.out hF.2); have X5 := Aside0.mk hF.1; have hc2 : w5.cell? ⟨g10, 2, none⟩ = some (.int .i64 x.f2) := (cell_of_row w5 g10 2 _ 53 (0, 0) hF.1).trans rfl; clear hF T4 X4))
    have T6 := Aside0.mk (T5.out.below (Below.refl _ _).drew)
    have X6 := Aside0.mk (blk_drew X5.out)
    clear T5 X5
    refine start_ (n := 12) (S := fun w' => w'.heap[g8]? = some (.cells #[vr] 25 (0, 0)) ∧ w'.heap[g10]? = some (.cells (row53 x) 53 (0, 0))) (ds := [11]) #[false, false, false, false, false, false, false, false, false, false, false, false] (by kernel_rfl) rfl rfl ⟨T6.out.r8, X6.out⟩ (fun hHeld => ?_); refine with_tabW seals_tab7 seals_bits7 (fun HT_ HW_ => ?_)
    generalize w5.drew = w6 at T6 X6 hHeld ⊢
    refine pure_ (i := 0) (N := some 23) (v := ?_) (a' := ?_) #[true, false, false, false, false, false, false, false, false, false, false, false] rfl rfl (any_of HT_.out (by kernel_rfl)) (fun _ _ _ h => h) (Or.inl ⟨by rfl, ?_⟩) ?_ ?_
    rotate_left
    ·
     intro w'
     go_simp
     with_reducible rfl
    rotate_left
    ·
     simp only [Act.put, List.setIfInBounds_toArray, List.set_cons_zero, List.set_cons_succ, i64_w, i32_w]
     rfl
    refine pure_ (i := 1) (N := some 24) (v := ?_) (a' := ?_) #[true, true, false, false, false, false, false, false, false, false, false, false] rfl rfl (any_of HT_.out (by kernel_rfl)) (fun _ _ _ h => h) (Or.inl ⟨by rfl, ?_⟩) ?_ ?_
    rotate_left
    ·
     intro w'
     go_simp
     with_reducible rfl
    rotate_left
    ·
     simp only [Act.put, List.setIfInBounds_toArray, List.set_cons_zero, List.set_cons_succ, i64_w, i32_w]
     rfl
    refine pure_ (i := 6) (N := some 29) (v := ?_) (a' := ?_) #[true, true, false, false, false, false, true, false, false, false, false, false] rfl rfl (any_of HT_.out (by kernel_rfl)) (fun _ _ _ h => h) (Or.inl ⟨by rfl, ?_⟩) ?_ ?_
    rotate_left
    ·
     intro w'
     go_simp
     with_reducible rfl
    rotate_left
    ·
     simp only [Act.put, List.setIfInBounds_toArray, List.set_cons_zero, List.set_cons_succ, i64_w, i32_w]
     rfl
    refine take_ (i := 2) (N := some 25) (v := .int .i64 x.f4) (a' := ?_) #[true, true, true, false, false, false, true, false, false, false, false, false] rfl rfl (take_ofW HT_.out HW_.out (by kernel_rfl)) (fun _ _ _ h => h) (Or.inl ⟨by rfl, fun w' hs => by
      have hc : w'.cell? ⟨g10, 4, none⟩ = some (.int .i64 x.f4) := (cell_of_row w' g10 4 _ 53 (0, 0) hs.2).trans rfl
      go_simp⟩) hHeld ?_ ?_
    rotate_left
    ·
     simp only [Act.put, List.setIfInBounds_toArray, List.set_cons_zero, List.set_cons_succ, i64_w, i32_w]
     rfl
    refine take_ (i := 7) (N := some 30) (v := .int .i64 x.f3) (a' := ?_) #[true, true, true, false, false, false, true, true, false, false, false, false] rfl rfl (take_ofW HT_.out HW_.out (by kernel_rfl)) (fun _ _ _ h => h) (Or.inl ⟨by rfl, fun w' hs => by
      have hc : w'.cell? ⟨g10, 3, none⟩ = some (.int .i64 x.f3) := (cell_of_row w' g10 3 _ 53 (0, 0) hs.2).trans rfl
      go_simp⟩) hHeld ?_ ?_
    rotate_left
    ·
     simp only [Act.put, List.setIfInBounds_toArray, List.set_cons_zero, List.set_cons_succ, i64_w, i32_w]
     rfl
    refine take_ (i := 5) (N := some 28) (v := vr) (a' := ?_) #[true, true, true, false, false, true, true, true, false, false, false, false] rfl rfl (take_ofW HT_.out HW_.out (by kernel_rfl)) (fun _ _ _ h => h) (Or.inl ⟨by rfl, fun w' hs => by
      have hc : w'.cell? ⟨g8, 0, none⟩ = some vr := (cell_of_row w' g8 0 _ 25 (0, 0) hs.1).trans rfl
      go_simp⟩) hHeld ?_ ?_
    rotate_left
    ·
     simp only [Act.put, List.setIfInBounds_toArray, List.set_cons_zero, List.set_cons_succ, i64_w, i32_w]
     rfl
    refine join_ (σ := Value × Value × Value × Value) 2 #[true, true, true, true, true, true, true, true, true, true, false, false] (fun s_ => [(26, s_.1), (27, s_.2.1), (31, s_.2.2.1), (32, s_.2.2.2)]) (fun s_ w' => Two w g8 vr w' s_.2.1 (UL ++ [x.f4]) s_.2.2.2 (VL ++ [x.f3]) ∧ w'.heap[g10]? = some (.cells (row53 x) 53 (0, 0))) ?_ ?_
    rotate_left
    ·
     intro hCont
     refine two_ (i := 3) (j := 8) (Ni := some 26) (Nj := some 31) #[true, true, true, true, false, true, true, true, false, false, false, false] #[true, true, true, false, false, true, true, true, true, false, false, false] rfl rfl rfl rfl (two_of HT_.out (by kernel_rfl)) (by decide) (by decide) (fun K hK => ?_) (fun K hK => ?_)
     ·
      refine lit_step (N := some 26) (cs := #[.int .i64 x.f4]) (t := 3) (n := 1) (by rfl) rfl ?hr ?_
      (case hr => first | (go_simp; done) | (go_simp; rfl))
      intro b3 hbg w7 hL hb
      have T7 := Aside0.mk (T6.out.below hb)
      have X7 := Aside0.mk (blk_below X6.out hb)
      have L3_7 := Aside0.mk (And.intro hL (And.intro (by rw [hbg]; exact T6.out.lu _ (Nat.le_refl _) : some b3 ≠ u.ownBlock) (by rw [hbg]; exact T6.out.lv _ (Nat.le_refl _) : some b3 ≠ vr.ownBlock)))
      clear hbg hL hb T6 X6
      refine hK.out _ _ ⟨T7.out.r8, X7.out⟩ (fun hHeld => ?_)
      clear hK K
      refine norm_ (a' := ?_) ?_ ?_
      rotate_left
      ·
       show Act.put _ (some 26) _ = _
       simp only [Act.put, List.setIfInBounds_toArray, List.set_cons_zero, List.set_cons_succ, i64_w, i32_w]
       rfl
      refine two_ (i := 4) (j := 8) (Ni := some 27) (Nj := some 31) #[true, true, true, true, true, true, true, true, false, false, false, false] #[true, true, true, true, false, true, true, true, true, false, false, false] rfl rfl rfl rfl (two_of HT_.out (by kernel_rfl)) (by decide) (by decide) (fun K hK => ?_) (fun K hK => ?_)
      ·
       refine appU_step (.tmp 23) (.tmp 26) T7.out L3_7.out.1 HUL.out (by rfl) rfl rfl rfl ?_
       intro u1 w8 hT hg
       have T8 := Aside0.mk hT
       have X8 := Aside0.mk ((hg.block g10 (blk_lt X7.out) (Kd.R_ne T7.out.ru X7.out (by decide))).trans X7.out)
       clear hT hg T7 X7 L3_7
       refine hK.out _ _ ⟨T8.out.r8, X8.out⟩ (fun hHeld => ?_)
       clear hK K
       refine norm_ (a' := ?_) ?_ ?_
       rotate_left
       ·
        show Act.put _ (some 27) _ = _
        simp only [Act.put, List.setIfInBounds_toArray, List.set_cons_zero, List.set_cons_succ, i64_w, i32_w]
        rfl
       refine one_ (i := 8) (N := some 31) #[true, true, true, true, true, true, true, true, true, false, false, false] rfl rfl (one_of HT_.out (by kernel_rfl)) (by decide) (fun K hK => ?_)
       refine lit_step (N := some 31) (cs := #[.int .i64 x.f3]) (t := 3) (n := 1) (by rfl) rfl ?hr ?_
       (case hr => first | (go_simp; done) | (go_simp; rfl))
       intro b8 hbg w9 hL hb
       have T9 := Aside0.mk (T8.out.below hb)
       have X9 := Aside0.mk (blk_below X8.out hb)
       have L8_9 := Aside0.mk (And.intro hL (And.intro (by rw [hbg]; exact T8.out.lu _ (Nat.le_refl _) : some b8 ≠ u1.ownBlock) (by rw [hbg]; exact T8.out.lv _ (Nat.le_refl _) : some b8 ≠ vr.ownBlock)))
       clear hbg hL hb T8 X8
       refine hK.out _ _ ⟨T9.out.r8, X9.out⟩ (fun hHeld => ?_)
       clear hK K
       refine norm_ (a' := ?_) ?_ ?_
       rotate_left
       ·
        show Act.put _ (some 31) _ = _
        simp only [Act.put, List.setIfInBounds_toArray, List.set_cons_zero, List.set_cons_succ, i64_w, i32_w]
        rfl
       refine one_ (i := 9) (N := some 32) #[true, true, true, true, true, true, true, true, true, true, false, false] rfl rfl (one_of HT_.out (by kernel_rfl)) (by decide) (fun K hK => ?_)
       refine appV_step (.tmp 28) (.tmp 31) T9.out L8_9.out.1 HVL.out (by rfl) rfl rfl rfl ?_
       intro v1 w10 hT hg
       have T10 := Aside0.mk hT
       have X10 := Aside0.mk ((hg.block g10 (blk_lt X9.out) (Kd.R_ne T9.out.rv X9.out (by decide))).trans X9.out)
       clear hT hg T9 X9 L8_9
       refine hK.out _ _ ⟨T10.out.r8, X10.out⟩ (fun hHeld => ?_)
       clear hK K
       refine norm_ (a' := ?_) ?_ ?_
       rotate_left
       ·
        show Act.put _ (some 32) _ = _
        simp only [Act.put, List.setIfInBounds_toArray, List.set_cons_zero, List.set_cons_succ, i64_w, i32_w]
        rfl
       exact norm_ (by simp only [putAll, Act.put, List.setIfInBounds_toArray, List.set_cons_zero, List.set_cons_succ]) (hCont (.slice (some ⟨b3, 0, none⟩) 1 1, u1, .slice (some ⟨b8, 0, none⟩) 1 1, v1) _ ⟨T10.out, X10.out⟩)
      ·
       refine lit_step (N := some 31) (cs := #[.int .i64 x.f3]) (t := 3) (n := 1) (by rfl) rfl ?hr ?_
       (case hr => first | (go_simp; done) | (go_simp; rfl))
       intro b8 hbg w8 hL hb
       have T8 := Aside0.mk (T7.out.below hb)
       have X8 := Aside0.mk (blk_below X7.out hb)
       have L8_8 := Aside0.mk (And.intro hL (And.intro (by rw [hbg]; exact T7.out.lu _ (Nat.le_refl _) : some b8 ≠ u.ownBlock) (by rw [hbg]; exact T7.out.lv _ (Nat.le_refl _) : some b8 ≠ vr.ownBlock)))
       have L3_8 := Aside0.mk (And.intro (blk_below L3_7.out.1 hb) L3_7.out.2)
       clear hbg hL hb T7 X7 L3_7
       refine hK.out _ _ ⟨T8.out.r8, X8.out⟩ (fun hHeld => ?_)
       clear hK K
       refine norm_ (a' := ?_) ?_ ?_
       rotate_left
       ·
        show Act.put _ (some 31) _ = _
        simp only [Act.put, List.setIfInBounds_toArray, List.set_cons_zero, List.set_cons_succ, i64_w, i32_w]
        rfl
       refine one_ (i := 4) (N := some 27) #[true, true, true, true, true, true, true, true, true, false, false, false] rfl rfl (one_of HT_.out (by kernel_rfl)) (by decide) (fun K hK => ?_)
       refine appU_step (.tmp 23) (.tmp 26) T8.out L3_8.out.1 HUL.out (by rfl) rfl rfl rfl ?_
       intro u1 w9 hT hg
       have T9 := Aside0.mk hT
       have X9 := Aside0.mk ((hg.block g10 (blk_lt X8.out) (Kd.R_ne T8.out.ru X8.out (by decide))).trans X8.out)
       have L8_9 := Aside0.mk (And.intro ((hg.block b8 (blk_lt L8_8.out.1) L8_8.out.2.1).trans L8_8.out.1) L8_8.out.2)
       clear hT hg T8 X8 L3_8 L8_8
       refine hK.out _ _ ⟨T9.out.r8, X9.out⟩ (fun hHeld => ?_)
       clear hK K
       refine norm_ (a' := ?_) ?_ ?_
       rotate_left
       ·
        show Act.put _ (some 27) _ = _
        simp only [Act.put, List.setIfInBounds_toArray, List.set_cons_zero, List.set_cons_succ, i64_w, i32_w]
        rfl
       refine one_ (i := 9) (N := some 32) #[true, true, true, true, true, true, true, true, true, true, false, false] rfl rfl (one_of HT_.out (by kernel_rfl)) (by decide) (fun K hK => ?_)
       refine appV_step (.tmp 28) (.tmp 31) T9.out L8_9.out.1 HVL.out (by rfl) rfl rfl rfl ?_
       intro v1 w10 hT hg
       have T10 := Aside0.mk hT
       have X10 := Aside0.mk ((hg.block g10 (blk_lt X9.out) (Kd.R_ne T9.out.rv X9.out (by decide))).trans X9.out)
       clear hT hg T9 X9 L8_9
       refine hK.out _ _ ⟨T10.out.r8, X10.out⟩ (fun hHeld => ?_)
       clear hK K
       refine norm_ (a' := ?_) ?_ ?_
       rotate_left
       ·
        show Act.put _ (some 32) _ = _
        simp only [Act.put, List.setIfInBounds_toArray, List.set_cons_zero, List.set_cons_succ, i64_w, i32_w]
        rfl
       exact norm_ (by simp only [putAll, Act.put, List.setIfInBounds_toArray, List.set_cons_zero, List.set_cons_succ]) (hCont (.slice (some ⟨b3, 0, none⟩) 1 1, u1, .slice (some ⟨b8, 0, none⟩) 1 1, v1) _ ⟨T10.out, X10.out⟩)
     ·
      refine lit_step (N := some 31) (cs := #[.int .i64 x.f3]) (t := 3) (n := 1) (by rfl) rfl ?hr ?_
      (case hr => first | (go_simp; done) | (go_simp; rfl))
      intro b8 hbg w7 hL hb
      have T7 := Aside0.mk (T6.out.below hb)
      have X7 := Aside0.mk (blk_below X6.out hb)
      have L8_7 := Aside0.mk (And.intro hL (And.intro (by rw [hbg]; exact T6.out.lu _ (Nat.le_refl _) : some b8 ≠ u.ownBlock) (by rw [hbg]; exact T6.out.lv _ (Nat.le_refl _) : some b8 ≠ vr.ownBlock)))
      clear hbg hL hb T6 X6
      refine hK.out _ _ ⟨T7.out.r8, X7.out⟩ (fun hHeld => ?_)
      clear hK K
      refine norm_ (a' := ?_) ?_ ?_
      rotate_left
      ·
       show Act.put _ (some 31) _ = _
       simp only [Act.put, List.setIfInBounds_toArray, List.set_cons_zero, List.set_cons_succ, i64_w, i32_w]
       rfl
      refine one_ (i := 3) (N := some 26) #[true, true, true, true, false, true, true, true, true, false, false, false] rfl rfl (one_of HT_.out (by kernel_rfl)) (by decide) (fun K hK => ?_)
      refine lit_step (N := some 26) (cs := #[.int .i64 x.f4]) (t := 3) (n := 1) (by rfl) rfl ?hr ?_
      (case hr => first | (go_simp; done) | (go_simp; rfl))
      intro b3 hbg w8 hL hb
      have T8 := Aside0.mk (T7.out.below hb)
      have X8 := Aside0.mk (blk_below X7.out hb)
      have L3_8 := Aside0.mk (And.intro hL (And.intro (by rw [hbg]; exact T7.out.lu _ (Nat.le_refl _) : some b3 ≠ u.ownBlock) (by rw [hbg]; exact T7.out.lv _ (Nat.le_refl _) : some b3 ≠ vr.ownBlock)))
      have L8_8 := Aside0.mk (And.intro (blk_below L8_7.out.1 hb) L8_7.out.2)
      clear hbg hL hb T7 X7 L8_7
      refine hK.out _ _ ⟨T8.out.r8, X8.out⟩ (fun hHeld => ?_)
      clear hK K
      refine norm_ (a' := ?_) ?_ ?_
      rotate_left
      ·
       show Act.put _ (some 26) _ = _
       simp only [Act.put, List.setIfInBounds_toArray, List.set_cons_zero, List.set_cons_succ, i64_w, i32_w]
       rfl
      refine one_ (i := 4) (N := some 27) #[true, true, true, true, true, true, true, true, true, false, false, false] rfl rfl (one_of HT_.out (by kernel_rfl)) (by decide) (fun K hK => ?_)
      refine appU_step (.tmp 23) (.tmp 26) T8.out L3_8.out.1 HUL.out (by rfl) rfl rfl rfl ?_
      intro u1 w9 hT hg
      have T9 := Aside0.mk hT
      have X9 := Aside0.mk ((hg.block g10 (blk_lt X8.out) (Kd.R_ne T8.out.ru X8.out (by decide))).trans X8.out)
      have L8_9 := Aside0.mk (And.intro ((hg.block b8 (blk_lt L8_8.out.1) L8_8.out.2.1).trans L8_8.out.1) L8_8.out.2)
      clear hT hg T8 X8 L3_8 L8_8
      refine hK.out _ _ ⟨T9.out.r8, X9.out⟩ (fun hHeld => ?_)
      clear hK K
      refine norm_ (a' := ?_) ?_ ?_
      rotate_left
      ·
       show Act.put _ (some 27) _ = _
       simp only [Act.put, List.setIfInBounds_toArray, List.set_cons_zero, List.set_cons_succ, i64_w, i32_w]
       rfl
      refine one_ (i := 9) (N := some 32) #[true, true, true, true, true, true, true, true, true, true, false, false] rfl rfl (one_of HT_.out (by kernel_rfl)) (by decide) (fun K hK => ?_)
      refine appV_step (.tmp 28) (.tmp 31) T9.out L8_9.out.1 HVL.out (by rfl) rfl rfl rfl ?_
      intro v1 w10 hT hg
      have T10 := Aside0.mk hT
      have X10 := Aside0.mk ((hg.block g10 (blk_lt X9.out) (Kd.R_ne T9.out.rv X9.out (by decide))).trans X9.out)
      clear hT hg T9 X9 L8_9
      refine hK.out _ _ ⟨T10.out.r8, X10.out⟩ (fun hHeld => ?_)
      clear hK K
      refine norm_ (a' := ?_) ?_ ?_
      rotate_left
      ·
       show Act.put _ (some 32) _ = _
       simp only [Act.put, List.setIfInBounds_toArray, List.set_cons_zero, List.set_cons_succ, i64_w, i32_w]
       rfl
      exact norm_ (by simp only [putAll, Act.put, List.setIfInBounds_toArray, List.set_cons_zero, List.set_cons_succ]) (hCont (.slice (some ⟨b3, 0, none⟩) 1 1, u1, .slice (some ⟨b8, 0, none⟩) 1 1, v1) _ ⟨T10.out, X10.out⟩)
    rintro ⟨s1, u1, s3, v1⟩ w7 ⟨hT, hX⟩
    have T7 : Aside0 (Two w g8 vr w7 u1 (UL ++ [x.f4]) v1 (VL ++ [x.f3])) := ⟨hT⟩
    have X7 := Aside0.mk hX
    clear hT hX T6 X6
    refine norm_ (a' := ?_) ?_ ?_
    rotate_left
    ·
     simp only [putAll, Act.put, List.setIfInBounds_toArray, List.set_cons_zero, List.set_cons_succ]
     rfl
    refine pure_ (i := 10) (N := some 7) (v := ?_) (a' := ?_) #[true, true, true, true, true, true, true, true, true, true, true, false] rfl rfl (any_of HT_.out (by kernel_rfl)) (fun _ _ _ h => h) (Or.inl ⟨by rfl, ?_⟩) ?_ ?_
    rotate_left
    ·
     intro w'
     go_simp
     with_reducible rfl
    rotate_left
    ·
     simp only [Act.put, List.setIfInBounds_toArray, List.set_cons_zero, List.set_cons_succ, i64_w, i32_w]
     rfl
    obtain ⟨w8, hr, hF⟩ := store_one T7.out.r8 0 (by show 0 < 1; omega) v1 (rone T7.out.rv) (T' := #[v1]) rfl 25 (by kernel_rfl)
    have T8 := Aside0.mk (T7.out.same hF.1 hF.2)
    refine last_store (i := 11) (w1 := w8) #[true, true, true, true, true, true, true, true, true, true, true, true] rfl rfl (one_of HT_.out (by kernel_rfl)) (by decide) (by rfl) (exec_store rfl (q := .pointer (some ⟨g8, 0, none⟩)) (v := v1) rfl rfl hr) ?_
    clear hr hF T7 X7
    refine done_ (done_of HT_.out (by kernel_rfl)) ?_
    go_wp2
    go_roundw
    case rel => exact ⟨i + 1, u1, v1, by omega, rfl, by go_num, ⟨by rw [EU2.out, EV2.out]; exact T8.out⟩⟩
    case measure => simp [intOf]; omega
   ·
    have c2 : (x.f2 == a1) = false := beq_eq_false_iff_ne.mpr h2
    have EU2 : Aside0 (l0 ++ affL a1 (l2.take (i + 1)) = UL) := ⟨by rw [EU.out, if_neg (by rw [c2]; decide), List.append_nil, hU]⟩
    have EV2 : Aside0 (remL a1 (l2.take (i + 1)) = VL) := ⟨by rw [EV.out, if_neg (by rw [c2]; decide), List.append_nil]⟩
    clear h2 EU EV hU hV
    go_wp2_with (first
     | ((with_reducible refine gate_dst (N := 18) rfl ?_); refine ev_load rfl (N := 18) rfl rfl (q := .pointer (some (ad.add (i * 5)))) (v := .agg (row53 x)) rfl LD.out ?_)
     | ((with_reducible refine gate_dst (N := 10) rfl ?_); refine box_event rfl (N := 10) rfl (cs := #[.int .i64 0, .int .i64 0, .int .i64 0, .int .i64 0, .int .i64 0]) (t := 53) ?hr ?_; (case hr => first | (go_simp; done) | (go_simp; rfl)); intro g10 hg w4 h1 b1; have T4 := Aside0.mk (HT.out.below b1); have X4 := Aside0.mk h1; have N4 := Aside0.mk (show g8 ≠ g10 by have := blk_lt HT.out.r8; omega); have G4 := Aside0.mk (show w.heap.size ≤ g10 by rw [hg]; exact HT.out.b.size); clear h1 b1 hg HT)
     | ((with_reducible refine gate_store (t := 53) (p := 10) rfl ?_); refine ev_store rfl (ty := 53) (p := 10) rfl rfl (q := .pointer (some ⟨g10, 0, none⟩)) (v := .agg (row53 x)) rfl rfl (store53 x X4.out) ?_; intro w5 hF; have T5 := Aside0.mk (T4.out.same10 X4.out N4.out G4.out hF.2); have X5 := Aside0.mk hF.1; have hc2 : w5.cell? ⟨g10, 2, none⟩ = some (.int .i64 x.f2) := (cell_of_row w5 g10 2 _ 53 (0, 0) hF.1).trans rfl; clear hF T4 X4))
    go_roundw
    case rel => exact ⟨i + 1, u, vr, by omega, rfl, by go_num, ⟨by rw [EU2.out, EV2.out]; exact T5.out⟩⟩
    case measure => simp [intOf]; omega
  ·
   obtain rfl : i = l2.length := by omega
   have p1 : ¬ ((l2.length : Nat) : Int) < l2.length := by omega
   rw [List.take_length] at HT
   have HUL : Aside0 ((l0 ++ affL a1 l2).length < 5000000000000) := ⟨by rw [List.length_append]; have h3 := affL_len a1 l2; have := HL.out; omega⟩
   have HS : Aside0 (sealsL l0 a1 l2 = (setL (l0 ++ affL a1 l2)).filter fun n => !(decide (n < 1) || (remL a1 l2).contains n)) := ⟨rfl⟩
   generalize l0 ++ affL a1 l2 = UL at HT HUL HS
   generalize remL a1 l2 = VL at HT HS
   obtain ⟨A7, c7, rfl, hc7, hC7⟩ := Kd.R_reads HT.out.ru
   obtain ⟨A8, c8, rfl, hc8, hC8⟩ := Kd.R_reads HT.out.rv
   have HC8 := Aside0.mk hC8
   clear hC8
   go_wp2_with (first
    | (go_at_call 53; refine (set_calls A7 c7 UL wr hC7 hc7 HUL.out).mono ?_; rintro e w3 ⟨v, rfl, ho, hb⟩; have O3 := Aside0.mk ho; have B3 := Aside0.mk hb; have P3 := Aside0.mk (blk_below HT.out.r8 hb); clear ho hb)
    | (go_at_call 52; refine (delete_calls O3.out (Nat.lt_of_le_of_lt (setL_len _) HUL.out) (fun n => decide (n < 1) || VL.contains n) 58 _ enters58 (fun W m x => clo58 g8 A8 c8 VL W (sees (w := wr) O3.out (Nat.le_refl _) (blk_lt HT.out.r8) B3.out P3.out HC8.out m).1 (sees (w := wr) O3.out (Nat.le_refl _) (blk_lt HT.out.r8) B3.out P3.out HC8.out m).2 x)).mono ?_; rintro e w4 ⟨v1, rfl, ho, hb⟩; have O4 := Aside0.mk (Kd.R_lower ho HT.out.b.size); have B4 := Aside0.mk (HT.out.b.trans ((B3.out.trans hb).mono HT.out.b.size)); clear ho hb))
   go_ret
   exact ⟨v1, rfl, by rw [HS.out]; exact O4.out, B4.out⟩


def transit_Seals.f (l0 : List Int) (a1 : Int) (l2 : List (S53)) : Option (List Int) := if l0.length + l2.length < 5000000000000 then some (sealsL l0 a1 l2) else none
theorem transit_Seals.calls (A0 : Option Addr) (c0 : Nat) (l0 : List Int) (a1 : Int) (A2 : Option Addr) (c2 : Nat) (l2 : List (S53)) (r : List Int) (w : World) (hr0 : Kd.C (Kd.int .i64) w A0 l0.length l0) (hc0 : l0.length ≤ c0) (hr2 : Kd.C k53 w A2 l2.length l2) (hc2 : l2.length ≤ c2) (h : transit_Seals.f l0 a1 l2 = some r) :
  Calls Tryd.prog 23 #[.slice A0 l0.length c0, .int .i64 a1, .slice A2 l2.length c2] w fun e w' => ∃ v0_ : Value, e = .returned (v0_) ∧ Kd.R (Kd.int .i64) 3 w' w.heap.size (fun _ => True) v0_ r ∧ Below w.heap.size w w' := by
 unfold transit_Seals.f at h
 by_cases c : l0.length + l2.length < 5000000000000
 ·
  rw [if_pos c] at h
  obtain rfl := Option.some.inj h
  exact seals_calls A0 c0 l0 a1 A2 c2 l2 w hr0 hc0 hr2 hc2 c
 ·
  rw [if_neg c] at h
  cases h


mutual
def customslaw35_TransitSeals.j5 : Nat → List Int → List Int → Int → List (S53) → Bool → Option (Bool)
 | 0, _, _, _, _, _ => none
 | k + 1, x1, x2, x3, x13, x80 => if x80 = true then ((customslaw35_awake.f).bind fun t931 => (some t931)) else ((transit_Compare.f x1 x2).bind fun bt932 => ((customsref33_Compare.f k x1 x2).bind fun bt938 => ((transit_Seals.f x1 x3 x13).bind fun t944 => ((customsref33_Seals.f k x1 x3 x13).bind fun t947 => ((customsref33_SameInts.f k t944 t947).bind fun t950 => (if t950 = true then ((customsref33_SameInts.f k bt932.1 bt938.1).bind fun t951 => (if t951 = true then ((customsref33_SameInts.f k bt932.2 bt938.2).bind fun t952 => (if t952 = true then ((customslaw35_awake.f).bind fun t953 => (some t953)) else (some false))) else (some false))) else (some false)))))))
def customslaw35_TransitSeals.j1 : Nat → List Int → Int → List (S53) → List Int → List Int → Option (Bool)
 | 0, _, _, _, _, _ => none
 | k + 1, x2, x3, x13, x14, x15 => customslaw35_TransitSeals.l1 k x2 x3 x13 x14 x15 0
def customslaw35_TransitSeals.l1 : Nat → List Int → Int → List (S53) → List Int → List Int → Int → Option (Bool)
 | 0, _, _, _, _, _, _ => none
 | k + 1, x2, x3, x13, x14, x15, x17 => if x17 < (x2.length : Int) then (if x17 < 8 then (if 0 ≤ x17 then ((customsmade_Within.f (rd x2 x17) 8).bind fun t881 => (if x15.length < 17592186044416 then (customslaw35_TransitSeals.l1 k x2 x3 x13 x14 (x15 ++ [t881]) (wrap64 (x17 + 1))) else (none))) else (none)) else (if (x13.length : Int) > 200 then (customslaw35_TransitSeals.j3 k x14 x15 x3 x13 true) else (if (x14.length : Int) > 200 then (customslaw35_TransitSeals.j3 k x14 x15 x3 x13 true) else (customslaw35_TransitSeals.j3 k x14 x15 x3 x13 (decide ((x15.length : Int) > 200)))))) else (if (x13.length : Int) > 200 then (customslaw35_TransitSeals.j4 k x14 x15 x3 x13 true) else (if (x14.length : Int) > 200 then (customslaw35_TransitSeals.j4 k x14 x15 x3 x13 true) else (customslaw35_TransitSeals.j4 k x14 x15 x3 x13 (decide ((x15.length : Int) > 200)))))
def customslaw35_TransitSeals.j3 : Nat → List Int → List Int → Int → List (S53) → Bool → Option (Bool)
 | 0, _, _, _, _, _ => none
 | k + 1, x1, x2, x3, x13, x80 => if x80 = true then ((customslaw35_awake.f).bind fun t885 => (some t885)) else ((transit_Compare.f x1 x2).bind fun bt886 => ((customsref33_Compare.f k x1 x2).bind fun bt892 => ((transit_Seals.f x1 x3 x13).bind fun t898 => ((customsref33_Seals.f k x1 x3 x13).bind fun t901 => ((customsref33_SameInts.f k t898 t901).bind fun t904 => (if t904 = true then ((customsref33_SameInts.f k bt886.1 bt892.1).bind fun t905 => (if t905 = true then ((customsref33_SameInts.f k bt886.2 bt892.2).bind fun t906 => (if t906 = true then ((customslaw35_awake.f).bind fun t907 => (some t907)) else (some false))) else (some false))) else (some false)))))))
def customslaw35_TransitSeals.j4 : Nat → List Int → List Int → Int → List (S53) → Bool → Option (Bool)
 | 0, _, _, _, _, _ => none
 | k + 1, x1, x2, x3, x13, x80 => if x80 = true then ((customslaw35_awake.f).bind fun t908 => (some t908)) else ((transit_Compare.f x1 x2).bind fun bt909 => ((customsref33_Compare.f k x1 x2).bind fun bt915 => ((transit_Seals.f x1 x3 x13).bind fun t921 => ((customsref33_Seals.f k x1 x3 x13).bind fun t924 => ((customsref33_SameInts.f k t921 t924).bind fun t927 => (if t927 = true then ((customsref33_SameInts.f k bt909.1 bt915.1).bind fun t928 => (if t928 = true then ((customsref33_SameInts.f k bt909.2 bt915.2).bind fun t929 => (if t929 = true then ((customslaw35_awake.f).bind fun t930 => (some t930)) else (some false))) else (some false))) else (some false)))))))
def customslaw35_TransitSeals.l0 : Nat → List Int → List Int → Int → List (S53) → List Int → Int → Option (Bool)
 | 0, _, _, _, _, _, _ => none
 | k + 1, x1, x2, x3, x13, x14, x16 => if x16 < (x1.length : Int) then (if x16 < 8 then (if 0 ≤ x16 then ((customsmade_Within.f (rd x1 x16) 8).bind fun t876 => (if x14.length < 17592186044416 then (customslaw35_TransitSeals.l0 k x1 x2 x3 x13 (x14 ++ [t876]) (wrap64 (x16 + 1))) else (none))) else (none)) else (customslaw35_TransitSeals.j1 k x2 x3 x13 x14 ([] : List Int))) else (customslaw35_TransitSeals.j1 k x2 x3 x13 x14 ([] : List Int))
end
def customslaw35_TransitSeals.f (k : Nat) (l0 : List Int) (l1 : List Int) (l2 : List Int) (a3 : Int) (l4 : List (S53)) (a5 : Bool) : Option (Bool) := if a5 = true then (if (l4.length : Int) > 200 then (customslaw35_TransitSeals.j5 k l1 l2 a3 l4 true) else (if (l1.length : Int) > 200 then (customslaw35_TransitSeals.j5 k l1 l2 a3 l4 true) else (customslaw35_TransitSeals.j5 k l1 l2 a3 l4 (decide ((l2.length : Int) > 200))))) else ((customslaw35_incidents.f k l0).bind fun t871 => ((customsmade_Within.f a3 3).bind fun t874 => (customslaw35_TransitSeals.l0 k l1 l2 (wrap64 (1 + t874)) t871 ([] : List Int) 0)))
set_option maxHeartbeats 8000000 in
set_option maxRecDepth 100000 in
theorem customslaw35_TransitSeals.calls (k : Nat) (A0 : Option Addr) (c0 : Nat) (l0 : List Int) (A1 : Option Addr) (c1 : Nat) (l1 : List Int) (A2 : Option Addr) (c2 : Nat) (l2 : List Int) (a3 : Int) (A4 : Option Addr) (c4 : Nat) (l4 : List (S53)) (a5 : Bool) (r : Bool) (w : World) (hr0 : Kd.C (Kd.int .i64) w A0 l0.length l0) (hc0 : l0.length ≤ c0) (hr1 : Kd.C (Kd.int .i64) w A1 l1.length l1) (hc1 : l1.length ≤ c1) (hr2 : Kd.C (Kd.int .i64) w A2 l2.length l2) (hc2 : l2.length ≤ c2) (hr4 : Kd.C k53 w A4 l4.length l4) (hc4 : l4.length ≤ c4) (hG_changes : GL_changes w) (h : customslaw35_TransitSeals.f k l0 l1 l2 a3 l4 a5 = some r) :
  Calls Tryd.prog 5 #[.slice A0 l0.length c0, .slice A1 l1.length c1, .slice A2 l2.length c2, .int .i64 a3, .slice A4 l4.length c4, .bool a5] w fun e w' => e = .returned (.bool r) ∧ Below w.heap.size w w' := by
 have HR0 := Aside0.mk hr0
 have HC0 := Aside0.mk hc0
 clear hr0 hc0
 have HR1 := Aside0.mk hr1
 have HC1 := Aside0.mk hc1
 clear hr1 hc1
 have HR2 := Aside0.mk hr2
 have HC2 := Aside0.mk hc2
 clear hr2 hc2
 have HR4 := Aside0.mk hr4
 have HC4 := Aside0.mk hc4
 clear hr4 hc4
 have HG_changes := Aside0.mk hG_changes
 clear hG_changes
 have HB := Aside0.mk (Below.refl w.heap.size w)
 have H : (if a5 = true then (if (l4.length : Int) > 200 then (customslaw35_TransitSeals.j5 k l1 l2 a3 l4 true) else (if (l1.length : Int) > 200 then (customslaw35_TransitSeals.j5 k l1 l2 a3 l4 true) else (customslaw35_TransitSeals.j5 k l1 l2 a3 l4 (decide ((l2.length : Int) > 200))))) else ((customslaw35_incidents.f k l0).bind fun t871 => ((customsmade_Within.f a3 3).bind fun t874 => (customslaw35_TransitSeals.l0 k l1 l2 (wrap64 (1 + t874)) t871 ([] : List Int) 0)))) = some r := h
 clear h
 by_cases c7 : a5 = true
 ·
  subst c7
  have H1 : (if (l4.length : Int) > 200 then (customslaw35_TransitSeals.j5 k l1 l2 a3 l4 true) else (if (l1.length : Int) > 200 then (customslaw35_TransitSeals.j5 k l1 l2 a3 l4 true) else (customslaw35_TransitSeals.j5 k l1 l2 a3 l4 (decide ((l2.length : Int) > 200))))) = some r := by rw [if_pos rfl] at H; exact H
  clear H
  have H := H1
  clear H1
  have HC8 := Aside0.mk H
  clear H
  go_enter Tryd.func5, Tryd.ntmps5
  go_upto_region 14 with (fail)
  go_cut [80] (fun v80 wc => ∃ (kq : Nat) (x80_7 : Bool), v80 = .bool x80_7 ∧ Aside0 (customslaw35_TransitSeals.j5 kq l1 l2 a3 l4 x80_7 = some r) ∧ Aside0 (kq ≤ k) ∧ Aside0 (Below w.heap.size w wc))
  case first =>
   have H := HC8.out
   clear HC8
   by_cases c9 : (l4.length : Int) > 200
   ·
    rw [if_pos c9] at H
    have c9b0 : decide (200 < (l4.length : Int)) = true := decide_eq_true c9
    have c9b1 : decide (200 < l4.length) = true := decide_eq_true (by omega)
    clear c9
    (first | rw [c9b0] | (simp only [i64_w, i32_w]; rw [c9b0]) | skip)
    have H' := Aside0.mk H
    clear H
    go_wp2
    go_meet
    case rel => exact ⟨_, (true), (by first | rfl | (simp; done) | (simp [*]; done)), H', ⟨by first | omega | exact Nat.le_refl _⟩, ⟨by repeat (first | (with_reducible first | exact HB.out | apply below_alloc | apply pw_below_drewN | apply below_drew1) | exact HB.out)⟩⟩
   ·
    rw [if_neg c9] at H
    have c9b0 : decide (200 < (l4.length : Int)) = false := decide_eq_false c9
    have c9b1 : decide (200 < l4.length) = false := decide_eq_false (by omega)
    clear c9
    (first | rw [c9b0] | (simp only [i64_w, i32_w]; rw [c9b0]) | skip)
    by_cases c10 : (l1.length : Int) > 200
    ·
     rw [if_pos c10] at H
     have c10b0 : decide (200 < (l1.length : Int)) = true := decide_eq_true c10
     have c10b1 : decide (200 < l1.length) = true := decide_eq_true (by omega)
     clear c10
     have H' := Aside0.mk H
     clear H
     go_wp2
     go_meet
     case rel => exact ⟨_, (true), (by first | rfl | (simp; done) | (simp [*]; done)), H', ⟨by first | omega | exact Nat.le_refl _⟩, ⟨by repeat (first | (with_reducible first | exact HB.out | apply below_alloc | apply pw_below_drewN | apply below_drew1) | exact HB.out)⟩⟩
    ·
     rw [if_neg c10] at H
     have c10b0 : decide (200 < (l1.length : Int)) = false := decide_eq_false c10
     have c10b1 : decide (200 < l1.length) = false := decide_eq_false (by omega)
     clear c10
     have H' := Aside0.mk H
     clear H
     go_wp2
     go_meet
     case rel => exact ⟨_, (decide ((l2.length : Int) > 200)), (by first | rfl | (simp; done) | (simp [*]; done)), H', ⟨by first | omega | exact Nat.le_refl _⟩, ⟨by repeat (first | (with_reducible first | exact HB.out | apply below_alloc | apply pw_below_drewN | apply below_drew1) | exact HB.out)⟩⟩
  case rest =>
   clear HC8
   try clear c1
   try clear c2
   try clear p2
   try clear c4
   try clear c5
   try clear p6
   try clear c7
   try clear c9
   try clear c9b0
   try clear c9b1
   try clear c10
   try clear c10b0
   try clear c10b1
   obtain ⟨kq, x80_7, rfl, HA, HJ7, HB⟩ := hcut
   cases kq with
   | zero => exact absurd HA.out (by simp [customslaw35_TransitSeals.j5])
   | succ kj7 =>
    have H := HA.out
    clear HA
    simp only [customslaw35_TransitSeals.j5] at H
    by_cases c11 : x80_7 = true
    ·
     subst c11
     have H1 : ((customslaw35_awake.f).bind fun t931 => (some t931)) = some r := by rw [if_pos rfl] at H; exact H
     clear H
     have H := H1
     clear H1
     replace H := Option.bind_eq_some_iff.mp H
     obtain ⟨t931, A120, H⟩ := H
     replace H : (some t931) = some r := H
     have A12 := Aside0.mk A120
     clear A120
     obtain rfl := Option.some.inj H
     go_wp2_with (first | ((with_reducible refine gate_callee (f := 16) rfl ?_); refine goesL_ (some 81) rfl rfl Tryd.func16 (by kernel_rfl) rfl #[] rfl (by (try simp only [List.map_toArray, List.map_cons, List.map_nil]); first | done | rfl | (simp only [List.length_drop, List.length_take]; rfl)) ?_; (with_reducible refine (customslaw35_awake.calls  t931 _ ?side1 A12.out).mono ?_); (case side1 => exact GL_changes.of_below HB.out HG_changes.out); rintro e w13 ⟨rfl, hb⟩; refine ⟨_, rfl, ?_⟩; have n0_ := Aside0.mk (below_step HB.out hb); clear HB; have HB := n0_; clear n0_; (try clear hb); (try clear hb2); (try clear hk); (try clear hi)))
     go_ret
     exact ⟨by first | rfl | (simp [errW_none, errW_some] <;> rfl) | (simp [*, errW_none, errW_some] <;> rfl), by repeat (first | (with_reducible first | exact HB.out | apply below_alloc | apply pw_below_drewN | apply below_drew1) | exact HB.out)⟩
    ·
     replace c11 := Bool.eq_false_iff.mpr c11
     subst c11
     have H1 : ((transit_Compare.f l1 l2).bind fun bt932 => ((customsref33_Compare.f kj7 l1 l2).bind fun bt938 => ((transit_Seals.f l1 a3 l4).bind fun t944 => ((customsref33_Seals.f kj7 l1 a3 l4).bind fun t947 => ((customsref33_SameInts.f kj7 t944 t947).bind fun t950 => (if t950 = true then ((customsref33_SameInts.f kj7 bt932.1 bt938.1).bind fun t951 => (if t951 = true then ((customsref33_SameInts.f kj7 bt932.2 bt938.2).bind fun t952 => (if t952 = true then ((customslaw35_awake.f).bind fun t953 => (some t953)) else (some false))) else (some false))) else (some false))))))) = some r := by rw [if_neg (show ¬ (false = true) by decide)] at H; exact H
     clear H
     have H := H1
     clear H1
     replace H := Option.bind_eq_some_iff.mp H
     obtain ⟨⟨t932, t933⟩, A140, H⟩ := H
     replace H : ((customsref33_Compare.f kj7 l1 l2).bind fun bt938 => ((transit_Seals.f l1 a3 l4).bind fun t944 => ((customsref33_Seals.f kj7 l1 a3 l4).bind fun t947 => ((customsref33_SameInts.f kj7 t944 t947).bind fun t950 => (if t950 = true then ((customsref33_SameInts.f kj7 t932 bt938.1).bind fun t951 => (if t951 = true then ((customsref33_SameInts.f kj7 t933 bt938.2).bind fun t952 => (if t952 = true then ((customslaw35_awake.f).bind fun t953 => (some t953)) else (some false))) else (some false))) else (some false)))))) = some r := H
     have A14 := Aside0.mk A140
     clear A140
     replace H := Option.bind_eq_some_iff.mp H
     obtain ⟨⟨t938, t941⟩, A150, H⟩ := H
     replace H : ((transit_Seals.f l1 a3 l4).bind fun t944 => ((customsref33_Seals.f kj7 l1 a3 l4).bind fun t947 => ((customsref33_SameInts.f kj7 t944 t947).bind fun t950 => (if t950 = true then ((customsref33_SameInts.f kj7 t932 t938).bind fun t951 => (if t951 = true then ((customsref33_SameInts.f kj7 t933 t941).bind fun t952 => (if t952 = true then ((customslaw35_awake.f).bind fun t953 => (some t953)) else (some false))) else (some false))) else (some false))))) = some r := H
     have A15 := Aside0.mk A150
     clear A150
     replace H := Option.bind_eq_some_iff.mp H
     obtain ⟨t944, A160, H⟩ := H
     replace H : ((customsref33_Seals.f kj7 l1 a3 l4).bind fun t947 => ((customsref33_SameInts.f kj7 t944 t947).bind fun t950 => (if t950 = true then ((customsref33_SameInts.f kj7 t932 t938).bind fun t951 => (if t951 = true then ((customsref33_SameInts.f kj7 t933 t941).bind fun t952 => (if t952 = true then ((customslaw35_awake.f).bind fun t953 => (some t953)) else (some false))) else (some false))) else (some false)))) = some r := H
     have A16 := Aside0.mk A160
     clear A160
     replace H := Option.bind_eq_some_iff.mp H
     obtain ⟨t947, A170, H⟩ := H
     replace H : ((customsref33_SameInts.f kj7 t944 t947).bind fun t950 => (if t950 = true then ((customsref33_SameInts.f kj7 t932 t938).bind fun t951 => (if t951 = true then ((customsref33_SameInts.f kj7 t933 t941).bind fun t952 => (if t952 = true then ((customslaw35_awake.f).bind fun t953 => (some t953)) else (some false))) else (some false))) else (some false))) = some r := H
     have A17 := Aside0.mk A170
     clear A170
     replace H := Option.bind_eq_some_iff.mp H
     obtain ⟨t950, A180, H⟩ := H
     replace H : (if t950 = true then ((customsref33_SameInts.f kj7 t932 t938).bind fun t951 => (if t951 = true then ((customsref33_SameInts.f kj7 t933 t941).bind fun t952 => (if t952 = true then ((customslaw35_awake.f).bind fun t953 => (some t953)) else (some false))) else (some false))) else (some false)) = some r := H
     have A18 := Aside0.mk A180
     clear A180
     by_cases c19 : t950 = true
     ·
      subst c19
      have H1 : ((customsref33_SameInts.f kj7 t932 t938).bind fun t951 => (if t951 = true then ((customsref33_SameInts.f kj7 t933 t941).bind fun t952 => (if t952 = true then ((customslaw35_awake.f).bind fun t953 => (some t953)) else (some false))) else (some false))) = some r := by rw [if_pos rfl] at H; exact H
      clear H
      have H := H1
      clear H1
      replace H := Option.bind_eq_some_iff.mp H
      obtain ⟨t951, A200, H⟩ := H
      replace H : (if t951 = true then ((customsref33_SameInts.f kj7 t933 t941).bind fun t952 => (if t952 = true then ((customslaw35_awake.f).bind fun t953 => (some t953)) else (some false))) else (some false)) = some r := H
      have A20 := Aside0.mk A200
      clear A200
      by_cases c21 : t951 = true
      ·
       subst c21
       have H1 : ((customsref33_SameInts.f kj7 t933 t941).bind fun t952 => (if t952 = true then ((customslaw35_awake.f).bind fun t953 => (some t953)) else (some false))) = some r := by rw [if_pos rfl] at H; exact H
       clear H
       have H := H1
       clear H1
       replace H := Option.bind_eq_some_iff.mp H
       obtain ⟨t952, A220, H⟩ := H
       replace H : (if t952 = true then ((customslaw35_awake.f).bind fun t953 => (some t953)) else (some false)) = some r := H
       have A22 := Aside0.mk A220
       clear A220
       by_cases c23 : t952 = true
       ·
        subst c23
        have H1 : ((customslaw35_awake.f).bind fun t953 => (some t953)) = some r := by rw [if_pos rfl] at H; exact H
        clear H
        have H := H1
        clear H1
        replace H := Option.bind_eq_some_iff.mp H
        obtain ⟨t953, A240, H⟩ := H
        replace H : (some t953) = some r := H
        have A24 := Aside0.mk A240
        clear A240
        obtain rfl := Option.some.inj H
        go_wp2_with (first | ((with_reducible refine gate_callee (f := 20) rfl ?_); refine goesL_ (some 85) rfl rfl Tryd.func20 (by kernel_rfl) rfl #[.slice A1 l1.length c1, .slice A2 l2.length c2] rfl (by (try simp only [List.map_toArray, List.map_cons, List.map_nil]); first | done | rfl | (simp only [List.length_drop, List.length_take]; rfl)) ?_; (with_reducible refine (transit_Compare.calls _ _ l1 _ _ l2 t932 t933 _ ?side1 ?side2 ?side3 ?side4 A14.out).mono ?_); (case side1 => repeat (first | exact (Kd.C_below HR1.out HB.out) | (with_reducible refine Kd.C_alloc ?_ _) | (with_reducible refine Kd.C_drewN ?_ _) | (with_reducible refine Kd.C_drew ?_))); (case side2 => exact HC1.out); (case side3 => repeat (first | exact (Kd.C_below HR2.out HB.out) | (with_reducible refine Kd.C_alloc ?_ _) | (with_reducible refine Kd.C_drewN ?_ _) | (with_reducible refine Kd.C_drew ?_))); (case side4 => exact HC2.out); rintro e w25 ⟨v934, v936, rfl, ho0, ho1, hb⟩; refine ⟨_, rfl, ?_⟩; have n0_ := Aside0.mk (Kd.R_lower ho0 (below_size (by repeat (first | (with_reducible first | exact HB.out | apply below_alloc | apply pw_below_drewN | apply below_drew1) | exact HB.out)))); have n1_ := Aside0.mk (Kd.R_lower ho1 (below_size (by repeat (first | (with_reducible first | exact HB.out | apply below_alloc | apply pw_below_drewN | apply below_drew1) | exact HB.out)))); have n2_ := Aside0.mk (below_step (by repeat (first | (with_reducible first | exact HB.out | apply below_alloc | apply pw_below_drewN | apply below_drew1) | exact HB.out)) hb); clear HB; have HO935 := n0_; have HO937 := n1_; have HB := n2_; clear n0_ n1_ n2_; (try clear hb); (try clear hb2); (try clear hk); (try clear hi); (try clear ho0); (try clear ho1)) | ((with_reducible refine gate_callee (f := 21) rfl ?_); refine goesL_ (some 91) rfl rfl Tryd.func21 (by kernel_rfl) rfl #[.slice A1 l1.length c1, .slice A2 l2.length c2] rfl (by (try simp only [List.map_toArray, List.map_cons, List.map_nil]); first | done | rfl | (simp only [List.length_drop, List.length_take]; rfl)) ?_; (with_reducible refine (customsref33_Compare.calls kj7 _ _ l1 _ _ l2 t938 t941 _ ?side1 ?side2 ?side3 ?side4 A15.out).mono ?_); (case side1 => repeat (first | exact (Kd.C_below HR1.out HB.out) | (with_reducible refine Kd.C_alloc ?_ _) | (with_reducible refine Kd.C_drewN ?_ _) | (with_reducible refine Kd.C_drew ?_))); (case side2 => exact HC1.out); (case side3 => repeat (first | exact (Kd.C_below HR2.out HB.out) | (with_reducible refine Kd.C_alloc ?_ _) | (with_reducible refine Kd.C_drewN ?_ _) | (with_reducible refine Kd.C_drew ?_))); (case side4 => exact HC2.out); rintro e w26 ⟨v939, v942, rfl, ho0, ho1, hb⟩; refine ⟨_, rfl, ?_⟩; have n0_ := Aside0.mk (Kd.R_below (by (with_reducible repeat (first | apply Kd.R_alloc | apply Kd.R_drewN | apply Kd.R_drew)); exact HO935.out) hb); have n1_ := Aside0.mk (Kd.R_below (by (with_reducible repeat (first | apply Kd.R_alloc | apply Kd.R_drewN | apply Kd.R_drew)); exact HO937.out) hb); have n2_ := Aside0.mk (Kd.V_lower (Kd.V_mono (ok' := fun k_ => some k_ ≠ (v934 : Value).ownBlock ∧ some k_ ≠ (v936 : Value).ownBlock) ho0 (fun k_ hk_ => ⟨(Kd.fresh' (Kd.R_lt (by (with_reducible repeat (first | apply Kd.R_alloc | apply Kd.R_drewN | apply Kd.R_drew)); exact HO935.out)) k_ hk_), (Kd.fresh' (Kd.R_lt (by (with_reducible repeat (first | apply Kd.R_alloc | apply Kd.R_drewN | apply Kd.R_drew)); exact HO937.out)) k_ hk_)⟩)) (below_size (by repeat (first | (with_reducible first | exact HB.out | apply below_alloc | apply pw_below_drewN | apply below_drew1) | exact HB.out)))); have n3_ := Aside0.mk (Kd.V_lower (Kd.V_mono (ok' := fun k_ => some k_ ≠ (v934 : Value).ownBlock ∧ some k_ ≠ (v936 : Value).ownBlock) ho1 (fun k_ hk_ => ⟨(Kd.fresh' (Kd.R_lt (by (with_reducible repeat (first | apply Kd.R_alloc | apply Kd.R_drewN | apply Kd.R_drew)); exact HO935.out)) k_ hk_), (Kd.fresh' (Kd.R_lt (by (with_reducible repeat (first | apply Kd.R_alloc | apply Kd.R_drewN | apply Kd.R_drew)); exact HO937.out)) k_ hk_)⟩)) (below_size (by repeat (first | (with_reducible first | exact HB.out | apply below_alloc | apply pw_below_drewN | apply below_drew1) | exact HB.out)))); have n4_ := Aside0.mk (below_step (by repeat (first | (with_reducible first | exact HB.out | apply below_alloc | apply pw_below_drewN | apply below_drew1) | exact HB.out)) hb); clear HO935; clear HO937; clear HB; have HO935 := n0_; have HO937 := n1_; have HO940 := n2_; have HO943 := n3_; have HB := n4_; clear n0_ n1_ n2_ n3_ n4_; (try clear hb); (try clear hb2); (try clear hk); (try clear hi); (try clear ho0); (try clear ho1)) | ((with_reducible refine gate_callee (f := 23) rfl ?_); refine goesL_ (some 97) rfl rfl Tryd.func23 (by kernel_rfl) rfl #[.slice A1 l1.length c1, .int .i64 a3, .slice A4 l4.length c4] rfl (by (try simp only [List.map_toArray, List.map_cons, List.map_nil]); first | done | rfl | (simp only [List.length_drop, List.length_take]; rfl)) ?_; (with_reducible refine (transit_Seals.calls _ _ l1 a3 _ _ l4 t944 _ ?side1 ?side2 ?side3 ?side4 A16.out).mono ?_); (case side1 => repeat (first | exact (Kd.C_below HR1.out HB.out) | (with_reducible refine Kd.C_alloc ?_ _) | (with_reducible refine Kd.C_drewN ?_ _) | (with_reducible refine Kd.C_drew ?_))); (case side2 => exact HC1.out); (case side3 => repeat (first | exact (Kd.C_below HR4.out HB.out) | (with_reducible refine Kd.C_alloc ?_ _) | (with_reducible refine Kd.C_drewN ?_ _) | (with_reducible refine Kd.C_drew ?_))); (case side4 => exact HC4.out); rintro e w27 ⟨v945, rfl, ho0, hb⟩; refine ⟨_, rfl, ?_⟩; have n0_ := Aside0.mk (Kd.R_elder' (by (with_reducible repeat (first | apply Kd.R_alloc | apply Kd.R_drewN | apply Kd.R_drew)); exact HO935.out) (Kd.R_base ho0) hb); have n1_ := Aside0.mk (Kd.R_elder' (by (with_reducible repeat (first | apply Kd.R_alloc | apply Kd.R_drewN | apply Kd.R_drew)); exact HO937.out) (Kd.R_base ho0) hb); have n2_ := Aside0.mk (Kd.V_elder' (by (with_reducible repeat (first | apply Kd.V_alloc | apply Kd.V_drewN | apply Kd.V_drew)); exact HO940.out) (Kd.R_base ho0) hb); have n3_ := Aside0.mk (Kd.V_elder' (by (with_reducible repeat (first | apply Kd.V_alloc | apply Kd.V_drewN | apply Kd.V_drew)); exact HO943.out) (Kd.R_base ho0) hb); have n4_ := Aside0.mk (Kd.R_lower (Kd.R_new' (Kd.R_new' ho0 (Kd.R_lt (by (with_reducible repeat (first | apply Kd.R_alloc | apply Kd.R_drewN | apply Kd.R_drew)); exact HO935.out))) (Kd.R_lt (by (with_reducible repeat (first | apply Kd.R_alloc | apply Kd.R_drewN | apply Kd.R_drew)); exact HO937.out))) (below_size (by repeat (first | (with_reducible first | exact HB.out | apply below_alloc | apply pw_below_drewN | apply below_drew1) | exact HB.out)))); have n5_ := Aside0.mk (below_step (by repeat (first | (with_reducible first | exact HB.out | apply below_alloc | apply pw_below_drewN | apply below_drew1) | exact HB.out)) hb); clear HO935; clear HO937; clear HO940; clear HO943; clear HB; have HO935 := n0_; have HO937 := n1_; have HO940 := n2_; have HO943 := n3_; have HO946 := n4_; have HB := n5_; clear n0_ n1_ n2_ n3_ n4_ n5_; (try clear hb); (try clear hb2); (try clear hk); (try clear hi); (try clear ho0)) | ((with_reducible refine gate_callee (f := 24) rfl ?_); refine goesL_ (some 101) rfl rfl Tryd.func24 (by kernel_rfl) rfl #[.slice A1 l1.length c1, .int .i64 a3, .slice A4 l4.length c4] rfl (by (try simp only [List.map_toArray, List.map_cons, List.map_nil]); first | done | rfl | (simp only [List.length_drop, List.length_take]; rfl)) ?_; (with_reducible refine (customsref33_Seals.calls kj7 _ _ l1 a3 _ _ l4 t947 _ ?side1 ?side2 ?side3 ?side4 A17.out).mono ?_); (case side1 => repeat (first | exact (Kd.C_below HR1.out HB.out) | (with_reducible refine Kd.C_alloc ?_ _) | (with_reducible refine Kd.C_drewN ?_ _) | (with_reducible refine Kd.C_drew ?_))); (case side2 => exact HC1.out); (case side3 => repeat (first | exact (Kd.C_below HR4.out HB.out) | (with_reducible refine Kd.C_alloc ?_ _) | (with_reducible refine Kd.C_drewN ?_ _) | (with_reducible refine Kd.C_drew ?_))); (case side4 => exact HC4.out); rintro e w28 ⟨v948, rfl, ho0, hb⟩; refine ⟨_, rfl, ?_⟩; have n0_ := Aside0.mk (Kd.R_elder' (by (with_reducible repeat (first | apply Kd.R_alloc | apply Kd.R_drewN | apply Kd.R_drew)); exact HO935.out) (Kd.R_base ho0) hb); have n1_ := Aside0.mk (Kd.R_elder' (by (with_reducible repeat (first | apply Kd.R_alloc | apply Kd.R_drewN | apply Kd.R_drew)); exact HO937.out) (Kd.R_base ho0) hb); have n2_ := Aside0.mk (Kd.V_elder' (by (with_reducible repeat (first | apply Kd.V_alloc | apply Kd.V_drewN | apply Kd.V_drew)); exact HO940.out) (Kd.R_base ho0) hb); have n3_ := Aside0.mk (Kd.V_elder' (by (with_reducible repeat (first | apply Kd.V_alloc | apply Kd.V_drewN | apply Kd.V_drew)); exact HO943.out) (Kd.R_base ho0) hb); have n4_ := Aside0.mk (Kd.R_elder' (by (with_reducible repeat (first | apply Kd.R_alloc | apply Kd.R_drewN | apply Kd.R_drew)); exact HO946.out) (Kd.R_base ho0) hb); have n5_ := Aside0.mk (Kd.R_lower (Kd.R_new' (Kd.R_new' (Kd.R_new' ho0 (Kd.R_lt (by (with_reducible repeat (first | apply Kd.R_alloc | apply Kd.R_drewN | apply Kd.R_drew)); exact HO935.out))) (Kd.R_lt (by (with_reducible repeat (first | apply Kd.R_alloc | apply Kd.R_drewN | apply Kd.R_drew)); exact HO937.out))) (Kd.R_lt (by (with_reducible repeat (first | apply Kd.R_alloc | apply Kd.R_drewN | apply Kd.R_drew)); exact HO946.out))) (below_size (by repeat (first | (with_reducible first | exact HB.out | apply below_alloc | apply pw_below_drewN | apply below_drew1) | exact HB.out)))); have n6_ := Aside0.mk (below_step (by repeat (first | (with_reducible first | exact HB.out | apply below_alloc | apply pw_below_drewN | apply below_drew1) | exact HB.out)) hb); clear HO935; clear HO937; clear HO940; clear HO943; clear HO946; clear HB; have HO935 := n0_; have HO937 := n1_; have HO940 := n2_; have HO943 := n3_; have HO946 := n4_; have HO949 := n5_; have HB := n6_; clear n0_ n1_ n2_ n3_ n4_ n5_ n6_; (try clear hb); (try clear hb2); (try clear hk); (try clear hi); (try clear ho0); obtain ⟨Ao29, co29, eo29⟩ := Kd.R_slice HO946.out; subst eo29; obtain ⟨Ao30, co30, eo30⟩ := Kd.R_slice HO949.out; subst eo30) | ((with_reducible refine gate_callee (f := 22) rfl ?_); refine goesL_ (some 102) rfl rfl Tryd.func22 (by kernel_rfl) rfl #[.slice Ao29 t944.length co29, .slice Ao30 t947.length co30] rfl (by (try simp only [List.map_toArray, List.map_cons, List.map_nil]); first | done | rfl | (simp only [List.length_drop, List.length_take]; rfl)) ?_; (with_reducible refine (customsref33_SameInts.calls kj7 _ _ t944 _ _ t947 true _ ?side1 ?side2 ?side3 ?side4 A18.out).mono ?_); (case side1 => repeat (first | exact (Kd.R_reads' HO946.out).2.2 | (with_reducible refine Kd.C_alloc ?_ _) | (with_reducible refine Kd.C_drewN ?_ _) | (with_reducible refine Kd.C_drew ?_))); (case side2 => exact (Kd.R_reads' HO946.out).2.1); (case side3 => repeat (first | exact (Kd.R_reads' HO949.out).2.2 | (with_reducible refine Kd.C_alloc ?_ _) | (with_reducible refine Kd.C_drewN ?_ _) | (with_reducible refine Kd.C_drew ?_))); (case side4 => exact (Kd.R_reads' HO949.out).2.1); rintro e w' ⟨rfl, ⟨nd, rfl⟩⟩; refine ⟨_, rfl, ?_⟩; obtain ⟨Ao31, co31, eo31⟩ := Kd.R_slice HO935.out; subst eo31; obtain ⟨Ao32, co32, eo32⟩ := Kd.V_slice HO940.out; subst eo32) | (go_at_call 22; (with_reducible refine (customsref33_SameInts.calls kj7 _ _ t932 _ _ t938 true _ ?side1 ?side2 ?side3 ?side4 A20.out).mono ?_); (case side1 => repeat (first | exact (Kd.R_reads' HO935.out).2.2 | (with_reducible refine Kd.C_alloc ?_ _) | (with_reducible refine Kd.C_drewN ?_ _) | (with_reducible refine Kd.C_drew ?_))); (case side2 => exact (Kd.R_reads' HO935.out).2.1); (case side3 => repeat (first | exact (Kd.V_reads' HO940.out).2.2 | (with_reducible refine Kd.C_alloc ?_ _) | (with_reducible refine Kd.C_drewN ?_ _) | (with_reducible refine Kd.C_drew ?_))); (case side4 => exact (Kd.V_reads' HO940.out).2.1); rintro e w' ⟨rfl, ⟨nd, rfl⟩⟩; obtain ⟨Ao33, co33, eo33⟩ := Kd.R_slice HO937.out; subst eo33; obtain ⟨Ao34, co34, eo34⟩ := Kd.V_slice HO943.out; subst eo34) | (go_at_call 22; (with_reducible refine (customsref33_SameInts.calls kj7 _ _ t933 _ _ t941 true _ ?side1 ?side2 ?side3 ?side4 A22.out).mono ?_); (case side1 => repeat (first | exact (Kd.R_reads' HO937.out).2.2 | (with_reducible refine Kd.C_alloc ?_ _) | (with_reducible refine Kd.C_drewN ?_ _) | (with_reducible refine Kd.C_drew ?_))); (case side2 => exact (Kd.R_reads' HO937.out).2.1); (case side3 => repeat (first | exact (Kd.V_reads' HO943.out).2.2 | (with_reducible refine Kd.C_alloc ?_ _) | (with_reducible refine Kd.C_drewN ?_ _) | (with_reducible refine Kd.C_drew ?_))); (case side4 => exact (Kd.V_reads' HO943.out).2.1); rintro e w' ⟨rfl, ⟨nd, rfl⟩⟩) | (go_at_call 16; (with_reducible refine (customslaw35_awake.calls  t953 _ ?side1 A24.out).mono ?_); (case side1 => exact GL_changes.of_below (by repeat (first | (with_reducible first | exact HB.out | apply below_alloc | apply pw_below_drewN | apply below_drew1) | exact HB.out)) HG_changes.out); rintro e w35 ⟨rfl, hb⟩; have n0_ := Aside0.mk (Kd.R_below (by (with_reducible repeat (first | apply Kd.R_alloc | apply Kd.R_drewN | apply Kd.R_drew)); exact HO935.out) hb); have n1_ := Aside0.mk (Kd.R_below (by (with_reducible repeat (first | apply Kd.R_alloc | apply Kd.R_drewN | apply Kd.R_drew)); exact HO937.out) hb); have n2_ := Aside0.mk (Kd.V_below (by (with_reducible repeat (first | apply Kd.V_alloc | apply Kd.V_drewN | apply Kd.V_drew)); exact HO940.out) hb); have n3_ := Aside0.mk (Kd.V_below (by (with_reducible repeat (first | apply Kd.V_alloc | apply Kd.V_drewN | apply Kd.V_drew)); exact HO943.out) hb); have n4_ := Aside0.mk (Kd.R_below (by (with_reducible repeat (first | apply Kd.R_alloc | apply Kd.R_drewN | apply Kd.R_drew)); exact HO946.out) hb); have n5_ := Aside0.mk (Kd.R_below (by (with_reducible repeat (first | apply Kd.R_alloc | apply Kd.R_drewN | apply Kd.R_drew)); exact HO949.out) hb); have n6_ := Aside0.mk (below_step (by repeat (first | (with_reducible first | exact HB.out | apply below_alloc | apply pw_below_drewN | apply below_drew1) | exact HB.out)) hb); clear HO935; clear HO937; clear HO940; clear HO943; clear HO946; clear HO949; clear HB; have HO935 := n0_; have HO937 := n1_; have HO940 := n2_; have HO943 := n3_; have HO946 := n4_; have HO949 := n5_; have HB := n6_; clear n0_ n1_ n2_ n3_ n4_ n5_ n6_; (try clear hb); (try clear hb2); (try clear hk); (try clear hi)))
        go_ret
        exact ⟨by first | rfl | (simp [errW_none, errW_some] <;> rfl) | (simp [*, errW_none, errW_some] <;> rfl), by repeat (first | (with_reducible first | exact HB.out | apply below_alloc | apply pw_below_drewN | apply below_drew1) | exact HB.out)⟩
       ·
        replace c23 := Bool.eq_false_iff.mpr c23
        subst c23
        have H1 : (some false) = some r := by rw [if_neg (show ¬ (false = true) by decide)] at H; exact H
        clear H
        have H := H1
        clear H1
        obtain rfl := Option.some.inj H
        go_wp2_with (first | ((with_reducible refine gate_callee (f := 20) rfl ?_); refine goesL_ (some 85) rfl rfl Tryd.func20 (by kernel_rfl) rfl #[.slice A1 l1.length c1, .slice A2 l2.length c2] rfl (by (try simp only [List.map_toArray, List.map_cons, List.map_nil]); first | done | rfl | (simp only [List.length_drop, List.length_take]; rfl)) ?_; (with_reducible refine (transit_Compare.calls _ _ l1 _ _ l2 t932 t933 _ ?side1 ?side2 ?side3 ?side4 A14.out).mono ?_); (case side1 => repeat (first | exact (Kd.C_below HR1.out HB.out) | (with_reducible refine Kd.C_alloc ?_ _) | (with_reducible refine Kd.C_drewN ?_ _) | (with_reducible refine Kd.C_drew ?_))); (case side2 => exact HC1.out); (case side3 => repeat (first | exact (Kd.C_below HR2.out HB.out) | (with_reducible refine Kd.C_alloc ?_ _) | (with_reducible refine Kd.C_drewN ?_ _) | (with_reducible refine Kd.C_drew ?_))); (case side4 => exact HC2.out); rintro e w36 ⟨v934, v936, rfl, ho0, ho1, hb⟩; refine ⟨_, rfl, ?_⟩; have n0_ := Aside0.mk (Kd.R_lower ho0 (below_size HB.out)); have n1_ := Aside0.mk (Kd.R_lower ho1 (below_size HB.out)); have n2_ := Aside0.mk (below_step HB.out hb); clear HB; have HO935 := n0_; have HO937 := n1_; have HB := n2_; clear n0_ n1_ n2_; (try clear hb); (try clear hb2); (try clear hk); (try clear hi); (try clear ho0); (try clear ho1)) | ((with_reducible refine gate_callee (f := 21) rfl ?_); refine goesL_ (some 91) rfl rfl Tryd.func21 (by kernel_rfl) rfl #[.slice A1 l1.length c1, .slice A2 l2.length c2] rfl (by (try simp only [List.map_toArray, List.map_cons, List.map_nil]); first | done | rfl | (simp only [List.length_drop, List.length_take]; rfl)) ?_; (with_reducible refine (customsref33_Compare.calls kj7 _ _ l1 _ _ l2 t938 t941 _ ?side1 ?side2 ?side3 ?side4 A15.out).mono ?_); (case side1 => repeat (first | exact (Kd.C_below HR1.out HB.out) | (with_reducible refine Kd.C_alloc ?_ _) | (with_reducible refine Kd.C_drewN ?_ _) | (with_reducible refine Kd.C_drew ?_))); (case side2 => exact HC1.out); (case side3 => repeat (first | exact (Kd.C_below HR2.out HB.out) | (with_reducible refine Kd.C_alloc ?_ _) | (with_reducible refine Kd.C_drewN ?_ _) | (with_reducible refine Kd.C_drew ?_))); (case side4 => exact HC2.out); rintro e w37 ⟨v939, v942, rfl, ho0, ho1, hb⟩; refine ⟨_, rfl, ?_⟩; have n0_ := Aside0.mk (Kd.R_below HO935.out hb); have n1_ := Aside0.mk (Kd.R_below HO937.out hb); have n2_ := Aside0.mk (Kd.V_lower (Kd.V_mono (ok' := fun k_ => some k_ ≠ (v934 : Value).ownBlock ∧ some k_ ≠ (v936 : Value).ownBlock) ho0 (fun k_ hk_ => ⟨(Kd.fresh' (Kd.R_lt HO935.out) k_ hk_), (Kd.fresh' (Kd.R_lt HO937.out) k_ hk_)⟩)) (below_size HB.out)); have n3_ := Aside0.mk (Kd.V_lower (Kd.V_mono (ok' := fun k_ => some k_ ≠ (v934 : Value).ownBlock ∧ some k_ ≠ (v936 : Value).ownBlock) ho1 (fun k_ hk_ => ⟨(Kd.fresh' (Kd.R_lt HO935.out) k_ hk_), (Kd.fresh' (Kd.R_lt HO937.out) k_ hk_)⟩)) (below_size HB.out)); have n4_ := Aside0.mk (below_step HB.out hb); clear HO935; clear HO937; clear HB; have HO935 := n0_; have HO937 := n1_; have HO940 := n2_; have HO943 := n3_; have HB := n4_; clear n0_ n1_ n2_ n3_ n4_; (try clear hb); (try clear hb2); (try clear hk); (try clear hi); (try clear ho0); (try clear ho1)) | ((with_reducible refine gate_callee (f := 23) rfl ?_); refine goesL_ (some 97) rfl rfl Tryd.func23 (by kernel_rfl) rfl #[.slice A1 l1.length c1, .int .i64 a3, .slice A4 l4.length c4] rfl (by (try simp only [List.map_toArray, List.map_cons, List.map_nil]); first | done | rfl | (simp only [List.length_drop, List.length_take]; rfl)) ?_; (with_reducible refine (transit_Seals.calls _ _ l1 a3 _ _ l4 t944 _ ?side1 ?side2 ?side3 ?side4 A16.out).mono ?_); (case side1 => repeat (first | exact (Kd.C_below HR1.out HB.out) | (with_reducible refine Kd.C_alloc ?_ _) | (with_reducible refine Kd.C_drewN ?_ _) | (with_reducible refine Kd.C_drew ?_))); (case side2 => exact HC1.out); (case side3 => repeat (first | exact (Kd.C_below HR4.out HB.out) | (with_reducible refine Kd.C_alloc ?_ _) | (with_reducible refine Kd.C_drewN ?_ _) | (with_reducible refine Kd.C_drew ?_))); (case side4 => exact HC4.out); rintro e w38 ⟨v945, rfl, ho0, hb⟩; refine ⟨_, rfl, ?_⟩; have n0_ := Aside0.mk (Kd.R_elder' HO935.out (Kd.R_base ho0) hb); have n1_ := Aside0.mk (Kd.R_elder' HO937.out (Kd.R_base ho0) hb); have n2_ := Aside0.mk (Kd.V_elder' HO940.out (Kd.R_base ho0) hb); have n3_ := Aside0.mk (Kd.V_elder' HO943.out (Kd.R_base ho0) hb); have n4_ := Aside0.mk (Kd.R_lower (Kd.R_new' (Kd.R_new' ho0 (Kd.R_lt HO935.out)) (Kd.R_lt HO937.out)) (below_size HB.out)); have n5_ := Aside0.mk (below_step HB.out hb); clear HO935; clear HO937; clear HO940; clear HO943; clear HB; have HO935 := n0_; have HO937 := n1_; have HO940 := n2_; have HO943 := n3_; have HO946 := n4_; have HB := n5_; clear n0_ n1_ n2_ n3_ n4_ n5_; (try clear hb); (try clear hb2); (try clear hk); (try clear hi); (try clear ho0)) | ((with_reducible refine gate_callee (f := 24) rfl ?_); refine goesL_ (some 101) rfl rfl Tryd.func24 (by kernel_rfl) rfl #[.slice A1 l1.length c1, .int .i64 a3, .slice A4 l4.length c4] rfl (by (try simp only [List.map_toArray, List.map_cons, List.map_nil]); first | done | rfl | (simp only [List.length_drop, List.length_take]; rfl)) ?_; (with_reducible refine (customsref33_Seals.calls kj7 _ _ l1 a3 _ _ l4 t947 _ ?side1 ?side2 ?side3 ?side4 A17.out).mono ?_); (case side1 => repeat (first | exact (Kd.C_below HR1.out HB.out) | (with_reducible refine Kd.C_alloc ?_ _) | (with_reducible refine Kd.C_drewN ?_ _) | (with_reducible refine Kd.C_drew ?_))); (case side2 => exact HC1.out); (case side3 => repeat (first | exact (Kd.C_below HR4.out HB.out) | (with_reducible refine Kd.C_alloc ?_ _) | (with_reducible refine Kd.C_drewN ?_ _) | (with_reducible refine Kd.C_drew ?_))); (case side4 => exact HC4.out); rintro e w39 ⟨v948, rfl, ho0, hb⟩; refine ⟨_, rfl, ?_⟩; have n0_ := Aside0.mk (Kd.R_elder' HO935.out (Kd.R_base ho0) hb); have n1_ := Aside0.mk (Kd.R_elder' HO937.out (Kd.R_base ho0) hb); have n2_ := Aside0.mk (Kd.V_elder' HO940.out (Kd.R_base ho0) hb); have n3_ := Aside0.mk (Kd.V_elder' HO943.out (Kd.R_base ho0) hb); have n4_ := Aside0.mk (Kd.R_elder' HO946.out (Kd.R_base ho0) hb); have n5_ := Aside0.mk (Kd.R_lower (Kd.R_new' (Kd.R_new' (Kd.R_new' ho0 (Kd.R_lt HO935.out)) (Kd.R_lt HO937.out)) (Kd.R_lt HO946.out)) (below_size HB.out)); have n6_ := Aside0.mk (below_step HB.out hb); clear HO935; clear HO937; clear HO940; clear HO943; clear HO946; clear HB; have HO935 := n0_; have HO937 := n1_; have HO940 := n2_; have HO943 := n3_; have HO946 := n4_; have HO949 := n5_; have HB := n6_; clear n0_ n1_ n2_ n3_ n4_ n5_ n6_; (try clear hb); (try clear hb2); (try clear hk); (try clear hi); (try clear ho0); obtain ⟨Ao40, co40, eo40⟩ := Kd.R_slice HO946.out; subst eo40; obtain ⟨Ao41, co41, eo41⟩ := Kd.R_slice HO949.out; subst eo41) | ((with_reducible refine gate_callee (f := 22) rfl ?_); refine goesL_ (some 102) rfl rfl Tryd.func22 (by kernel_rfl) rfl #[.slice Ao40 t944.length co40, .slice Ao41 t947.length co41] rfl (by (try simp only [List.map_toArray, List.map_cons, List.map_nil]); first | done | rfl | (simp only [List.length_drop, List.length_take]; rfl)) ?_; (with_reducible refine (customsref33_SameInts.calls kj7 _ _ t944 _ _ t947 true _ ?side1 ?side2 ?side3 ?side4 A18.out).mono ?_); (case side1 => repeat (first | exact (Kd.R_reads' HO946.out).2.2 | (with_reducible refine Kd.C_alloc ?_ _) | (with_reducible refine Kd.C_drewN ?_ _) | (with_reducible refine Kd.C_drew ?_))); (case side2 => exact (Kd.R_reads' HO946.out).2.1); (case side3 => repeat (first | exact (Kd.R_reads' HO949.out).2.2 | (with_reducible refine Kd.C_alloc ?_ _) | (with_reducible refine Kd.C_drewN ?_ _) | (with_reducible refine Kd.C_drew ?_))); (case side4 => exact (Kd.R_reads' HO949.out).2.1); rintro e w' ⟨rfl, ⟨nd, rfl⟩⟩; refine ⟨_, rfl, ?_⟩; obtain ⟨Ao42, co42, eo42⟩ := Kd.R_slice HO935.out; subst eo42; obtain ⟨Ao43, co43, eo43⟩ := Kd.V_slice HO940.out; subst eo43) | (go_at_call 22; (with_reducible refine (customsref33_SameInts.calls kj7 _ _ t932 _ _ t938 true _ ?side1 ?side2 ?side3 ?side4 A20.out).mono ?_); (case side1 => repeat (first | exact (Kd.R_reads' HO935.out).2.2 | (with_reducible refine Kd.C_alloc ?_ _) | (with_reducible refine Kd.C_drewN ?_ _) | (with_reducible refine Kd.C_drew ?_))); (case side2 => exact (Kd.R_reads' HO935.out).2.1); (case side3 => repeat (first | exact (Kd.V_reads' HO940.out).2.2 | (with_reducible refine Kd.C_alloc ?_ _) | (with_reducible refine Kd.C_drewN ?_ _) | (with_reducible refine Kd.C_drew ?_))); (case side4 => exact (Kd.V_reads' HO940.out).2.1); rintro e w' ⟨rfl, ⟨nd, rfl⟩⟩; obtain ⟨Ao44, co44, eo44⟩ := Kd.R_slice HO937.out; subst eo44; obtain ⟨Ao45, co45, eo45⟩ := Kd.V_slice HO943.out; subst eo45) | (go_at_call 22; (with_reducible refine (customsref33_SameInts.calls kj7 _ _ t933 _ _ t941 false _ ?side1 ?side2 ?side3 ?side4 A22.out).mono ?_); (case side1 => repeat (first | exact (Kd.R_reads' HO937.out).2.2 | (with_reducible refine Kd.C_alloc ?_ _) | (with_reducible refine Kd.C_drewN ?_ _) | (with_reducible refine Kd.C_drew ?_))); (case side2 => exact (Kd.R_reads' HO937.out).2.1); (case side3 => repeat (first | exact (Kd.V_reads' HO943.out).2.2 | (with_reducible refine Kd.C_alloc ?_ _) | (with_reducible refine Kd.C_drewN ?_ _) | (with_reducible refine Kd.C_drew ?_))); (case side4 => exact (Kd.V_reads' HO943.out).2.1); rintro e w' ⟨rfl, ⟨nd, rfl⟩⟩))
        go_ret
        exact ⟨by first | rfl | (simp [errW_none, errW_some] <;> rfl) | (simp [*, errW_none, errW_some] <;> rfl), by repeat (first | (with_reducible first | exact HB.out | apply below_alloc | apply pw_below_drewN | apply below_drew1) | exact HB.out)⟩
      ·
       replace c21 := Bool.eq_false_iff.mpr c21
       subst c21
       have H1 : (some false) = some r := by rw [if_neg (show ¬ (false = true) by decide)] at H; exact H
       clear H
       have H := H1
       clear H1
       obtain rfl := Option.some.inj H
       go_wp2_with (first | ((with_reducible refine gate_callee (f := 20) rfl ?_); refine goesL_ (some 85) rfl rfl Tryd.func20 (by kernel_rfl) rfl #[.slice A1 l1.length c1, .slice A2 l2.length c2] rfl (by (try simp only [List.map_toArray, List.map_cons, List.map_nil]); first | done | rfl | (simp only [List.length_drop, List.length_take]; rfl)) ?_; (with_reducible refine (transit_Compare.calls _ _ l1 _ _ l2 t932 t933 _ ?side1 ?side2 ?side3 ?side4 A14.out).mono ?_); (case side1 => repeat (first | exact (Kd.C_below HR1.out HB.out) | (with_reducible refine Kd.C_alloc ?_ _) | (with_reducible refine Kd.C_drewN ?_ _) | (with_reducible refine Kd.C_drew ?_))); (case side2 => exact HC1.out); (case side3 => repeat (first | exact (Kd.C_below HR2.out HB.out) | (with_reducible refine Kd.C_alloc ?_ _) | (with_reducible refine Kd.C_drewN ?_ _) | (with_reducible refine Kd.C_drew ?_))); (case side4 => exact HC2.out); rintro e w46 ⟨v934, v936, rfl, ho0, ho1, hb⟩; refine ⟨_, rfl, ?_⟩; have n0_ := Aside0.mk (Kd.R_lower ho0 (below_size HB.out)); have n1_ := Aside0.mk (Kd.R_lower ho1 (below_size HB.out)); have n2_ := Aside0.mk (below_step HB.out hb); clear HB; have HO935 := n0_; have HO937 := n1_; have HB := n2_; clear n0_ n1_ n2_; (try clear hb); (try clear hb2); (try clear hk); (try clear hi); (try clear ho0); (try clear ho1)) | ((with_reducible refine gate_callee (f := 21) rfl ?_); refine goesL_ (some 91) rfl rfl Tryd.func21 (by kernel_rfl) rfl #[.slice A1 l1.length c1, .slice A2 l2.length c2] rfl (by (try simp only [List.map_toArray, List.map_cons, List.map_nil]); first | done | rfl | (simp only [List.length_drop, List.length_take]; rfl)) ?_; (with_reducible refine (customsref33_Compare.calls kj7 _ _ l1 _ _ l2 t938 t941 _ ?side1 ?side2 ?side3 ?side4 A15.out).mono ?_); (case side1 => repeat (first | exact (Kd.C_below HR1.out HB.out) | (with_reducible refine Kd.C_alloc ?_ _) | (with_reducible refine Kd.C_drewN ?_ _) | (with_reducible refine Kd.C_drew ?_))); (case side2 => exact HC1.out); (case side3 => repeat (first | exact (Kd.C_below HR2.out HB.out) | (with_reducible refine Kd.C_alloc ?_ _) | (with_reducible refine Kd.C_drewN ?_ _) | (with_reducible refine Kd.C_drew ?_))); (case side4 => exact HC2.out); rintro e w47 ⟨v939, v942, rfl, ho0, ho1, hb⟩; refine ⟨_, rfl, ?_⟩; have n0_ := Aside0.mk (Kd.R_below HO935.out hb); have n1_ := Aside0.mk (Kd.R_below HO937.out hb); have n2_ := Aside0.mk (Kd.V_lower (Kd.V_mono (ok' := fun k_ => some k_ ≠ (v934 : Value).ownBlock ∧ some k_ ≠ (v936 : Value).ownBlock) ho0 (fun k_ hk_ => ⟨(Kd.fresh' (Kd.R_lt HO935.out) k_ hk_), (Kd.fresh' (Kd.R_lt HO937.out) k_ hk_)⟩)) (below_size HB.out)); have n3_ := Aside0.mk (Kd.V_lower (Kd.V_mono (ok' := fun k_ => some k_ ≠ (v934 : Value).ownBlock ∧ some k_ ≠ (v936 : Value).ownBlock) ho1 (fun k_ hk_ => ⟨(Kd.fresh' (Kd.R_lt HO935.out) k_ hk_), (Kd.fresh' (Kd.R_lt HO937.out) k_ hk_)⟩)) (below_size HB.out)); have n4_ := Aside0.mk (below_step HB.out hb); clear HO935; clear HO937; clear HB; have HO935 := n0_; have HO937 := n1_; have HO940 := n2_; have HO943 := n3_; have HB := n4_; clear n0_ n1_ n2_ n3_ n4_; (try clear hb); (try clear hb2); (try clear hk); (try clear hi); (try clear ho0); (try clear ho1)) | ((with_reducible refine gate_callee (f := 23) rfl ?_); refine goesL_ (some 97) rfl rfl Tryd.func23 (by kernel_rfl) rfl #[.slice A1 l1.length c1, .int .i64 a3, .slice A4 l4.length c4] rfl (by (try simp only [List.map_toArray, List.map_cons, List.map_nil]); first | done | rfl | (simp only [List.length_drop, List.length_take]; rfl)) ?_; (with_reducible refine (transit_Seals.calls _ _ l1 a3 _ _ l4 t944 _ ?side1 ?side2 ?side3 ?side4 A16.out).mono ?_); (case side1 => repeat (first | exact (Kd.C_below HR1.out HB.out) | (with_reducible refine Kd.C_alloc ?_ _) | (with_reducible refine Kd.C_drewN ?_ _) | (with_reducible refine Kd.C_drew ?_))); (case side2 => exact HC1.out); (case side3 => repeat (first | exact (Kd.C_below HR4.out HB.out) | (with_reducible refine Kd.C_alloc ?_ _) | (with_reducible refine Kd.C_drewN ?_ _) | (with_reducible refine Kd.C_drew ?_))); (case side4 => exact HC4.out); rintro e w48 ⟨v945, rfl, ho0, hb⟩; refine ⟨_, rfl, ?_⟩; have n0_ := Aside0.mk (Kd.R_elder' HO935.out (Kd.R_base ho0) hb); have n1_ := Aside0.mk (Kd.R_elder' HO937.out (Kd.R_base ho0) hb); have n2_ := Aside0.mk (Kd.V_elder' HO940.out (Kd.R_base ho0) hb); have n3_ := Aside0.mk (Kd.V_elder' HO943.out (Kd.R_base ho0) hb); have n4_ := Aside0.mk (Kd.R_lower (Kd.R_new' (Kd.R_new' ho0 (Kd.R_lt HO935.out)) (Kd.R_lt HO937.out)) (below_size HB.out)); have n5_ := Aside0.mk (below_step HB.out hb); clear HO935; clear HO937; clear HO940; clear HO943; clear HB; have HO935 := n0_; have HO937 := n1_; have HO940 := n2_; have HO943 := n3_; have HO946 := n4_; have HB := n5_; clear n0_ n1_ n2_ n3_ n4_ n5_; (try clear hb); (try clear hb2); (try clear hk); (try clear hi); (try clear ho0)) | ((with_reducible refine gate_callee (f := 24) rfl ?_); refine goesL_ (some 101) rfl rfl Tryd.func24 (by kernel_rfl) rfl #[.slice A1 l1.length c1, .int .i64 a3, .slice A4 l4.length c4] rfl (by (try simp only [List.map_toArray, List.map_cons, List.map_nil]); first | done | rfl | (simp only [List.length_drop, List.length_take]; rfl)) ?_; (with_reducible refine (customsref33_Seals.calls kj7 _ _ l1 a3 _ _ l4 t947 _ ?side1 ?side2 ?side3 ?side4 A17.out).mono ?_); (case side1 => repeat (first | exact (Kd.C_below HR1.out HB.out) | (with_reducible refine Kd.C_alloc ?_ _) | (with_reducible refine Kd.C_drewN ?_ _) | (with_reducible refine Kd.C_drew ?_))); (case side2 => exact HC1.out); (case side3 => repeat (first | exact (Kd.C_below HR4.out HB.out) | (with_reducible refine Kd.C_alloc ?_ _) | (with_reducible refine Kd.C_drewN ?_ _) | (with_reducible refine Kd.C_drew ?_))); (case side4 => exact HC4.out); rintro e w49 ⟨v948, rfl, ho0, hb⟩; refine ⟨_, rfl, ?_⟩; have n0_ := Aside0.mk (Kd.R_elder' HO935.out (Kd.R_base ho0) hb); have n1_ := Aside0.mk (Kd.R_elder' HO937.out (Kd.R_base ho0) hb); have n2_ := Aside0.mk (Kd.V_elder' HO940.out (Kd.R_base ho0) hb); have n3_ := Aside0.mk (Kd.V_elder' HO943.out (Kd.R_base ho0) hb); have n4_ := Aside0.mk (Kd.R_elder' HO946.out (Kd.R_base ho0) hb); have n5_ := Aside0.mk (Kd.R_lower (Kd.R_new' (Kd.R_new' (Kd.R_new' ho0 (Kd.R_lt HO935.out)) (Kd.R_lt HO937.out)) (Kd.R_lt HO946.out)) (below_size HB.out)); have n6_ := Aside0.mk (below_step HB.out hb); clear HO935; clear HO937; clear HO940; clear HO943; clear HO946; clear HB; have HO935 := n0_; have HO937 := n1_; have HO940 := n2_; have HO943 := n3_; have HO946 := n4_; have HO949 := n5_; have HB := n6_; clear n0_ n1_ n2_ n3_ n4_ n5_ n6_; (try clear hb); (try clear hb2); (try clear hk); (try clear hi); (try clear ho0); obtain ⟨Ao50, co50, eo50⟩ := Kd.R_slice HO946.out; subst eo50; obtain ⟨Ao51, co51, eo51⟩ := Kd.R_slice HO949.out; subst eo51) | ((with_reducible refine gate_callee (f := 22) rfl ?_); refine goesL_ (some 102) rfl rfl Tryd.func22 (by kernel_rfl) rfl #[.slice Ao50 t944.length co50, .slice Ao51 t947.length co51] rfl (by (try simp only [List.map_toArray, List.map_cons, List.map_nil]); first | done | rfl | (simp only [List.length_drop, List.length_take]; rfl)) ?_; (with_reducible refine (customsref33_SameInts.calls kj7 _ _ t944 _ _ t947 true _ ?side1 ?side2 ?side3 ?side4 A18.out).mono ?_); (case side1 => repeat (first | exact (Kd.R_reads' HO946.out).2.2 | (with_reducible refine Kd.C_alloc ?_ _) | (with_reducible refine Kd.C_drewN ?_ _) | (with_reducible refine Kd.C_drew ?_))); (case side2 => exact (Kd.R_reads' HO946.out).2.1); (case side3 => repeat (first | exact (Kd.R_reads' HO949.out).2.2 | (with_reducible refine Kd.C_alloc ?_ _) | (with_reducible refine Kd.C_drewN ?_ _) | (with_reducible refine Kd.C_drew ?_))); (case side4 => exact (Kd.R_reads' HO949.out).2.1); rintro e w' ⟨rfl, ⟨nd, rfl⟩⟩; refine ⟨_, rfl, ?_⟩; obtain ⟨Ao52, co52, eo52⟩ := Kd.R_slice HO935.out; subst eo52; obtain ⟨Ao53, co53, eo53⟩ := Kd.V_slice HO940.out; subst eo53) | (go_at_call 22; (with_reducible refine (customsref33_SameInts.calls kj7 _ _ t932 _ _ t938 false _ ?side1 ?side2 ?side3 ?side4 A20.out).mono ?_); (case side1 => repeat (first | exact (Kd.R_reads' HO935.out).2.2 | (with_reducible refine Kd.C_alloc ?_ _) | (with_reducible refine Kd.C_drewN ?_ _) | (with_reducible refine Kd.C_drew ?_))); (case side2 => exact (Kd.R_reads' HO935.out).2.1); (case side3 => repeat (first | exact (Kd.V_reads' HO940.out).2.2 | (with_reducible refine Kd.C_alloc ?_ _) | (with_reducible refine Kd.C_drewN ?_ _) | (with_reducible refine Kd.C_drew ?_))); (case side4 => exact (Kd.V_reads' HO940.out).2.1); rintro e w' ⟨rfl, ⟨nd, rfl⟩⟩))
       go_ret
       exact ⟨by first | rfl | (simp [errW_none, errW_some] <;> rfl) | (simp [*, errW_none, errW_some] <;> rfl), by repeat (first | (with_reducible first | exact HB.out | apply below_alloc | apply pw_below_drewN | apply below_drew1) | exact HB.out)⟩
     ·
      replace c19 := Bool.eq_false_iff.mpr c19
      subst c19
      have H1 : (some false) = some r := by rw [if_neg (show ¬ (false = true) by decide)] at H; exact H
      clear H
      have H := H1
      clear H1
      obtain rfl := Option.some.inj H
      go_wp2_with (first | ((with_reducible refine gate_callee (f := 20) rfl ?_); refine goesL_ (some 85) rfl rfl Tryd.func20 (by kernel_rfl) rfl #[.slice A1 l1.length c1, .slice A2 l2.length c2] rfl (by (try simp only [List.map_toArray, List.map_cons, List.map_nil]); first | done | rfl | (simp only [List.length_drop, List.length_take]; rfl)) ?_; (with_reducible refine (transit_Compare.calls _ _ l1 _ _ l2 t932 t933 _ ?side1 ?side2 ?side3 ?side4 A14.out).mono ?_); (case side1 => repeat (first | exact (Kd.C_below HR1.out HB.out) | (with_reducible refine Kd.C_alloc ?_ _) | (with_reducible refine Kd.C_drewN ?_ _) | (with_reducible refine Kd.C_drew ?_))); (case side2 => exact HC1.out); (case side3 => repeat (first | exact (Kd.C_below HR2.out HB.out) | (with_reducible refine Kd.C_alloc ?_ _) | (with_reducible refine Kd.C_drewN ?_ _) | (with_reducible refine Kd.C_drew ?_))); (case side4 => exact HC2.out); rintro e w54 ⟨v934, v936, rfl, ho0, ho1, hb⟩; refine ⟨_, rfl, ?_⟩; have n0_ := Aside0.mk (Kd.R_lower ho0 (below_size HB.out)); have n1_ := Aside0.mk (Kd.R_lower ho1 (below_size HB.out)); have n2_ := Aside0.mk (below_step HB.out hb); clear HB; have HO935 := n0_; have HO937 := n1_; have HB := n2_; clear n0_ n1_ n2_; (try clear hb); (try clear hb2); (try clear hk); (try clear hi); (try clear ho0); (try clear ho1)) | ((with_reducible refine gate_callee (f := 21) rfl ?_); refine goesL_ (some 91) rfl rfl Tryd.func21 (by kernel_rfl) rfl #[.slice A1 l1.length c1, .slice A2 l2.length c2] rfl (by (try simp only [List.map_toArray, List.map_cons, List.map_nil]); first | done | rfl | (simp only [List.length_drop, List.length_take]; rfl)) ?_; (with_reducible refine (customsref33_Compare.calls kj7 _ _ l1 _ _ l2 t938 t941 _ ?side1 ?side2 ?side3 ?side4 A15.out).mono ?_); (case side1 => repeat (first | exact (Kd.C_below HR1.out HB.out) | (with_reducible refine Kd.C_alloc ?_ _) | (with_reducible refine Kd.C_drewN ?_ _) | (with_reducible refine Kd.C_drew ?_))); (case side2 => exact HC1.out); (case side3 => repeat (first | exact (Kd.C_below HR2.out HB.out) | (with_reducible refine Kd.C_alloc ?_ _) | (with_reducible refine Kd.C_drewN ?_ _) | (with_reducible refine Kd.C_drew ?_))); (case side4 => exact HC2.out); rintro e w55 ⟨v939, v942, rfl, ho0, ho1, hb⟩; refine ⟨_, rfl, ?_⟩; have n0_ := Aside0.mk (Kd.R_below HO935.out hb); have n1_ := Aside0.mk (Kd.R_below HO937.out hb); have n2_ := Aside0.mk (Kd.V_lower (Kd.V_mono (ok' := fun k_ => some k_ ≠ (v934 : Value).ownBlock ∧ some k_ ≠ (v936 : Value).ownBlock) ho0 (fun k_ hk_ => ⟨(Kd.fresh' (Kd.R_lt HO935.out) k_ hk_), (Kd.fresh' (Kd.R_lt HO937.out) k_ hk_)⟩)) (below_size HB.out)); have n3_ := Aside0.mk (Kd.V_lower (Kd.V_mono (ok' := fun k_ => some k_ ≠ (v934 : Value).ownBlock ∧ some k_ ≠ (v936 : Value).ownBlock) ho1 (fun k_ hk_ => ⟨(Kd.fresh' (Kd.R_lt HO935.out) k_ hk_), (Kd.fresh' (Kd.R_lt HO937.out) k_ hk_)⟩)) (below_size HB.out)); have n4_ := Aside0.mk (below_step HB.out hb); clear HO935; clear HO937; clear HB; have HO935 := n0_; have HO937 := n1_; have HO940 := n2_; have HO943 := n3_; have HB := n4_; clear n0_ n1_ n2_ n3_ n4_; (try clear hb); (try clear hb2); (try clear hk); (try clear hi); (try clear ho0); (try clear ho1)) | ((with_reducible refine gate_callee (f := 23) rfl ?_); refine goesL_ (some 97) rfl rfl Tryd.func23 (by kernel_rfl) rfl #[.slice A1 l1.length c1, .int .i64 a3, .slice A4 l4.length c4] rfl (by (try simp only [List.map_toArray, List.map_cons, List.map_nil]); first | done | rfl | (simp only [List.length_drop, List.length_take]; rfl)) ?_; (with_reducible refine (transit_Seals.calls _ _ l1 a3 _ _ l4 t944 _ ?side1 ?side2 ?side3 ?side4 A16.out).mono ?_); (case side1 => repeat (first | exact (Kd.C_below HR1.out HB.out) | (with_reducible refine Kd.C_alloc ?_ _) | (with_reducible refine Kd.C_drewN ?_ _) | (with_reducible refine Kd.C_drew ?_))); (case side2 => exact HC1.out); (case side3 => repeat (first | exact (Kd.C_below HR4.out HB.out) | (with_reducible refine Kd.C_alloc ?_ _) | (with_reducible refine Kd.C_drewN ?_ _) | (with_reducible refine Kd.C_drew ?_))); (case side4 => exact HC4.out); rintro e w56 ⟨v945, rfl, ho0, hb⟩; refine ⟨_, rfl, ?_⟩; have n0_ := Aside0.mk (Kd.R_elder' HO935.out (Kd.R_base ho0) hb); have n1_ := Aside0.mk (Kd.R_elder' HO937.out (Kd.R_base ho0) hb); have n2_ := Aside0.mk (Kd.V_elder' HO940.out (Kd.R_base ho0) hb); have n3_ := Aside0.mk (Kd.V_elder' HO943.out (Kd.R_base ho0) hb); have n4_ := Aside0.mk (Kd.R_lower (Kd.R_new' (Kd.R_new' ho0 (Kd.R_lt HO935.out)) (Kd.R_lt HO937.out)) (below_size HB.out)); have n5_ := Aside0.mk (below_step HB.out hb); clear HO935; clear HO937; clear HO940; clear HO943; clear HB; have HO935 := n0_; have HO937 := n1_; have HO940 := n2_; have HO943 := n3_; have HO946 := n4_; have HB := n5_; clear n0_ n1_ n2_ n3_ n4_ n5_; (try clear hb); (try clear hb2); (try clear hk); (try clear hi); (try clear ho0)) | ((with_reducible refine gate_callee (f := 24) rfl ?_); refine goesL_ (some 101) rfl rfl Tryd.func24 (by kernel_rfl) rfl #[.slice A1 l1.length c1, .int .i64 a3, .slice A4 l4.length c4] rfl (by (try simp only [List.map_toArray, List.map_cons, List.map_nil]); first | done | rfl | (simp only [List.length_drop, List.length_take]; rfl)) ?_; (with_reducible refine (customsref33_Seals.calls kj7 _ _ l1 a3 _ _ l4 t947 _ ?side1 ?side2 ?side3 ?side4 A17.out).mono ?_); (case side1 => repeat (first | exact (Kd.C_below HR1.out HB.out) | (with_reducible refine Kd.C_alloc ?_ _) | (with_reducible refine Kd.C_drewN ?_ _) | (with_reducible refine Kd.C_drew ?_))); (case side2 => exact HC1.out); (case side3 => repeat (first | exact (Kd.C_below HR4.out HB.out) | (with_reducible refine Kd.C_alloc ?_ _) | (with_reducible refine Kd.C_drewN ?_ _) | (with_reducible refine Kd.C_drew ?_))); (case side4 => exact HC4.out); rintro e w57 ⟨v948, rfl, ho0, hb⟩; refine ⟨_, rfl, ?_⟩; have n0_ := Aside0.mk (Kd.R_elder' HO935.out (Kd.R_base ho0) hb); have n1_ := Aside0.mk (Kd.R_elder' HO937.out (Kd.R_base ho0) hb); have n2_ := Aside0.mk (Kd.V_elder' HO940.out (Kd.R_base ho0) hb); have n3_ := Aside0.mk (Kd.V_elder' HO943.out (Kd.R_base ho0) hb); have n4_ := Aside0.mk (Kd.R_elder' HO946.out (Kd.R_base ho0) hb); have n5_ := Aside0.mk (Kd.R_lower (Kd.R_new' (Kd.R_new' (Kd.R_new' ho0 (Kd.R_lt HO935.out)) (Kd.R_lt HO937.out)) (Kd.R_lt HO946.out)) (below_size HB.out)); have n6_ := Aside0.mk (below_step HB.out hb); clear HO935; clear HO937; clear HO940; clear HO943; clear HO946; clear HB; have HO935 := n0_; have HO937 := n1_; have HO940 := n2_; have HO943 := n3_; have HO946 := n4_; have HO949 := n5_; have HB := n6_; clear n0_ n1_ n2_ n3_ n4_ n5_ n6_; (try clear hb); (try clear hb2); (try clear hk); (try clear hi); (try clear ho0); obtain ⟨Ao58, co58, eo58⟩ := Kd.R_slice HO946.out; subst eo58; obtain ⟨Ao59, co59, eo59⟩ := Kd.R_slice HO949.out; subst eo59) | ((with_reducible refine gate_callee (f := 22) rfl ?_); refine goesL_ (some 102) rfl rfl Tryd.func22 (by kernel_rfl) rfl #[.slice Ao58 t944.length co58, .slice Ao59 t947.length co59] rfl (by (try simp only [List.map_toArray, List.map_cons, List.map_nil]); first | done | rfl | (simp only [List.length_drop, List.length_take]; rfl)) ?_; (with_reducible refine (customsref33_SameInts.calls kj7 _ _ t944 _ _ t947 false _ ?side1 ?side2 ?side3 ?side4 A18.out).mono ?_); (case side1 => repeat (first | exact (Kd.R_reads' HO946.out).2.2 | (with_reducible refine Kd.C_alloc ?_ _) | (with_reducible refine Kd.C_drewN ?_ _) | (with_reducible refine Kd.C_drew ?_))); (case side2 => exact (Kd.R_reads' HO946.out).2.1); (case side3 => repeat (first | exact (Kd.R_reads' HO949.out).2.2 | (with_reducible refine Kd.C_alloc ?_ _) | (with_reducible refine Kd.C_drewN ?_ _) | (with_reducible refine Kd.C_drew ?_))); (case side4 => exact (Kd.R_reads' HO949.out).2.1); rintro e w' ⟨rfl, ⟨nd, rfl⟩⟩; refine ⟨_, rfl, ?_⟩))
      go_ret
      exact ⟨by first | rfl | (simp [errW_none, errW_some] <;> rfl) | (simp [*, errW_none, errW_some] <;> rfl), by repeat (first | (with_reducible first | exact HB.out | apply below_alloc | apply pw_below_drewN | apply below_drew1) | exact HB.out)⟩
 ·
  replace c7 := Bool.eq_false_iff.mpr c7
  subst c7
  have H1 : ((customslaw35_incidents.f k l0).bind fun t871 => ((customsmade_Within.f a3 3).bind fun t874 => (customslaw35_TransitSeals.l0 k l1 l2 (wrap64 (1 + t874)) t871 ([] : List Int) 0))) = some r := by rw [if_neg (show ¬ (false = true) by decide)] at H; exact H
  clear H
  have H := H1
  clear H1
  replace H := Option.bind_eq_some_iff.mp H
  obtain ⟨t871, A600, H⟩ := H
  replace H : ((customsmade_Within.f a3 3).bind fun t874 => (customslaw35_TransitSeals.l0 k l1 l2 (wrap64 (1 + t874)) t871 ([] : List Int) 0)) = some r := H
  have A60 := Aside0.mk A600
  clear A600
  replace H := Option.bind_eq_some_iff.mp H
  obtain ⟨t874, A610, H⟩ := H
  replace H : (customslaw35_TransitSeals.l0 k l1 l2 (wrap64 (1 + t874)) t871 ([] : List Int) 0) = some r := H
  have A61 := Aside0.mk A610
  clear A610
  have HC62 := Aside0.mk H
  clear H
  go_enter Tryd.func5, Tryd.ntmps5
  go_upto_block 0 with (first | ((with_reducible refine gate_callee (f := 19) rfl ?_); refine goesL_ (some 26) rfl rfl Tryd.func19 (by kernel_rfl) rfl #[.slice A0 l0.length c0] rfl (by (try simp only [List.map_toArray, List.map_cons, List.map_nil]); first | done | rfl | (simp only [List.length_drop, List.length_take]; rfl)) ?_; (with_reducible refine (customslaw35_incidents.calls k _ _ l0 t871 _ ?side1 ?side2 A60.out).mono ?_); (case side1 => repeat (first | exact HR0.out | (with_reducible refine Kd.C_alloc ?_ _) | (with_reducible refine Kd.C_drewN ?_ _) | (with_reducible refine Kd.C_drew ?_))); (case side2 => exact HC0.out); rintro e w63 ⟨v872, rfl, ho0, hb⟩; refine ⟨_, rfl, ?_⟩; have n0_ := Aside0.mk (Kd.R_lower ho0 (below_size HB.out)); have n1_ := Aside0.mk (below_step HB.out hb); clear HB; have HO873 := n0_; have HB := n1_; clear n0_ n1_; (try clear hb); (try clear hb2); (try clear hk); (try clear hi); (try clear ho0)) | ((with_reducible refine gate_callee (f := 8) rfl ?_); refine goesL_ (some 28) rfl rfl Tryd.func8 (by kernel_rfl) rfl #[.int .i64 a3, .int .i64 3] rfl (by (try simp only [List.map_toArray, List.map_cons, List.map_nil]); first | done | rfl | (simp only [List.length_drop, List.length_take]; rfl)) ?_; (with_reducible refine (customsmade_Within.calls a3 3 t874 _ A61.out).mono ?_); rintro e w' ⟨rfl, ⟨nd, rfl⟩⟩; refine ⟨_, rfl, ?_⟩))
  (try simp only [Act.put, List.setIfInBounds_toArray, List.set_cons_zero, List.set_cons_succ])
  go_cut [14] (fun v14 wc => ∃ (kq : Nat) (x14_61 : List Int), Aside0 (customslaw35_TransitSeals.j1 kq l2 (wrap64 (1 + t874)) t871 x14_61 ([] : List Int) = some r) ∧ Aside0 (kq ≤ k) ∧ Aside0 (Kd.R k53 53 wc w.heap.size (fun _ => True) v872 t871) ∧ Aside0 (Kd.R (Kd.int .i64) 3 wc w.heap.size (fun k_ => some k_ ≠ ((.slice none 0 0) : Value).ownBlock) v14 x14_61) ∧ Aside0 (Kd.R (Kd.int .i64) 3 wc w.heap.size (fun k_ => some k_ ≠ (v14 : Value).ownBlock) (.slice none 0 0) ([] : List Int)) ∧ Aside0 (Below w.heap.size w wc))
  case first =>
   have H := HC62.out
   clear HC62
   have H' := Aside0.mk H
   clear H
   go_wp2
   go_loopg [14, 16] k (fun kq v14 v16 w' => ∃ (x14_1 : List Int) (x16_1 : Int), v16 = .int .i64 x16_1 ∧ Aside0 (customslaw35_TransitSeals.l0 kq l1 l2 (wrap64 (1 + t874)) t871 x14_1 x16_1 = some r) ∧ Aside0 (kq ≤ k) ∧ Aside0 (Kd.R k53 53 w' w.heap.size (fun _ => True) v872 t871) ∧ Aside0 (Kd.R (Kd.int .i64) 3 w' w.heap.size (fun _ => True) v14 x14_1) ∧ Aside0 (Below w.heap.size w w'))
   case atStart => exact ⟨(([] : List Int)), (0), (by first | rfl | (simp; done) | (simp [*]; done)), H', ⟨Nat.le_refl _⟩, ⟨by (with_reducible repeat (first | apply Kd.R_alloc | apply Kd.R_drewN | apply Kd.R_drew)); exact HO873.out⟩, ⟨by first | exact Kd.R_nil _ _ _ _ _ | exact Kd.N_nil _ _ _ _ _ | exact Kd.V_nil _ _ _ _ _ | exact Kd.Q_nil _ _ _ _ _ | exact Kd.S_nil _ _ _ _ _⟩, ⟨by repeat (first | (with_reducible first | exact HB.out | apply below_alloc | apply pw_below_drewN | apply below_drew1) | exact HB.out)⟩⟩
   case round =>
    clear H'
    try clear c1
    try clear c2
    try clear p2
    try clear c4
    try clear c5
    try clear p6
    try clear c7
    try clear c8
    try clear c9
    try clear c9b0
    try clear c9b1
    try clear c10
    try clear c10b0
    try clear c10b1
    try clear c11
    try clear c16
    try clear c19
    try clear c20
    try clear c21
    try clear c22
    try clear c23
    try clear c24
    try clear p2
    try clear p6
    obtain ⟨x14_1, x16_1, rfl, HA, HK1, HO_13, HO_14, HB⟩ := hrel
    cases gk with
    | zero => exact absurd HA.out (by simp [customslaw35_TransitSeals.l0])
    | succ k1 =>
     have H := HA.out
     clear HA
     simp only [customslaw35_TransitSeals.l0] at H
     by_cases c64 : x16_1 < (l1.length : Int)
     ·
      rw [if_pos c64] at H
      have c64b0 : decide (x16_1 < (l1.length : Int)) = true := decide_eq_true c64
      clear c64
      (first | rw [c64b0] | (simp only [i64_w, i32_w]; rw [c64b0]) | skip)
      by_cases c65 : x16_1 < 8
      ·
       rw [if_pos c65] at H
       have c65b0 : decide (x16_1 < 8) = true := decide_eq_true c65
       clear c65
       by_cases c66 : 0 ≤ x16_1
       ·
        rw [if_pos c66] at H
        have c66b0 : decide (0 ≤ x16_1) = true := decide_eq_true c66
        clear c66
        replace H := Option.bind_eq_some_iff.mp H
        obtain ⟨t876, A670, H⟩ := H
        replace H : (if x14_1.length < 17592186044416 then (customslaw35_TransitSeals.l0 k1 l1 l2 (wrap64 (1 + t874)) t871 (x14_1 ++ [t876]) (wrap64 (x16_1 + 1))) else (none)) = some r := H
        have A67 := Aside0.mk A670
        clear A670
        by_cases c68 : x14_1.length < 17592186044416
        ·
         rw [if_pos c68] at H
         have LMc68 := Aside0.mk c68
         clear c68
         obtain ⟨y877, hy877⟩ : ∃ y_ : List Int, y_ = (x14_1 ++ [t876]) := ⟨_, rfl⟩
         replace H : (customslaw35_TransitSeals.l0 k1 l1 l2 (wrap64 (1 + t874)) t871 y877 (wrap64 (x16_1 + 1))) = some r := by first | (rw [hy877]; with_reducible exact H) | (have H2_ := (Option.bind_some _ _).symm.trans H; rw [hy877]; with_reducible exact H2_) | (have H2_ := (Option.bind_some _ _).symm.trans H; with_reducible exact H2_) | with_reducible exact H | (rw [hy877]; exact H) | exact H
         have Ny877 := Aside0.mk hy877
         clear hy877
         have H' := Aside0.mk H
         clear H
         have p875 : 0 ≤ (x16_1 : Int) := of_decide_eq_true (by first | (with_reducible assumption) | assumption)
         have q875 : x16_1 < (l1.length : Int) := of_decide_eq_true (by first | (with_reducible assumption) | assumption)
         obtain ⟨ad875, e875, hx875_0⟩ := Kd.at_int HR1.out x16_1 p875 q875
         cases e875
         replace hx875_0 := (HB.out.cell (World.block_lt_of_cell? w _ hx875_0)).trans hx875_0
         replace p875 := eq_true p875
         replace q875 := eq_true q875
         go_wp2_with (first | ((with_reducible refine gate_callee (f := 8) rfl ?_); refine goesL_ (some 45) rfl rfl Tryd.func8 (by kernel_rfl) rfl #[.int .i64 (rd l1 x16_1), .int .i64 8] rfl (by (try simp only [List.map_toArray, List.map_cons, List.map_nil]); first | done | rfl | (simp only [List.length_drop, List.length_take]; rfl)) ?_; (with_reducible refine (customsmade_Within.calls (rd l1 x16_1) 8 t876 _ A67.out).mono ?_); rintro e w' ⟨rfl, ⟨nd, rfl⟩⟩; refine ⟨_, rfl, ?_⟩) | ((with_reducible refine gate_builtin (b := .append) (xs := #[.tmp 40, .tmp 46]) rfl ?_); (try (refine gate_guard (by rfl) ?_; dsimp only)); at_builtin; refine Kd.R_append (Kd.int .i64) (w0 := w) w.heap.size rfl (.tmp 40) (.tmp 46) 25 3 (.int .i64 0) 8 rfl Tryd.underlying25 info3 rfl (by decide) (by omega) u14 x14_1 t876 [.int .i64 t876] (fun _ => True) (fun _ => False) rfl rfl ?aP (fun _ hk => hk.elim) ?aF ?aO ?aB ?aS ?aL ?_; (case aP => exact rfl); (case aB => exact (by repeat (first | (with_reducible first | exact HB.out | apply below_alloc | apply pw_below_drewN | apply below_drew1) | exact HB.out))); (case aF => exact (fun _ _ => trivial)); (case aO => exact (by (with_reducible repeat (first | apply Kd.R_alloc | apply Kd.R_drewN | apply Kd.R_drew)); exact HO_14.out)); (case aS => exact (below_size (by repeat (first | (with_reducible first | exact HB.out | apply below_alloc | apply pw_below_drewN | apply below_drew1) | exact HB.out)))); (case aL => have := LMc68.out; omega); intro v878 w69 ho hb hg hat; rw [← Ny877.out] at ho; have n0_ := Aside0.mk (Kd.R_over' (by (with_reducible repeat (first | apply Kd.R_alloc | apply Kd.R_drewN | apply Kd.R_drew)); exact HO_13.out) (Kd.R_typed (by (with_reducible repeat (first | apply Kd.R_alloc | apply Kd.R_drewN | apply Kd.R_drew)); exact HO_14.out)) (by decide) hg); have n1_ := Aside0.mk (hb); have n2_ := Aside0.mk (ho); clear HO_13; clear HB; clear HO_14; have HO_13 := n0_; have HB := n1_; have HO879 := n2_; clear n0_ n1_ n2_; clear ho hb hg hat))
         go_roundg k1
         case measure => have := HK1.out; omega
         case rel => exact ⟨(y877), (wrap64 (x16_1 + 1)), (by first | rfl | (simp; done) | (simp [*]; done)), H', ⟨by have := HK1.out; omega⟩, ⟨by (with_reducible repeat (first | apply Kd.R_alloc | apply Kd.R_drewN | apply Kd.R_drew)); exact HO_13.out⟩, ⟨by (with_reducible repeat (first | apply Kd.R_alloc | apply Kd.R_drewN | apply Kd.R_drew)); exact HO879.out⟩, ⟨by repeat (first | (with_reducible first | exact HB.out | apply below_alloc | apply pw_below_drewN | apply below_drew1) | exact HB.out)⟩⟩
        ·
         rw [if_neg c68] at H
         exact absurd H (by simp)
       ·
        rw [if_neg c66] at H
        exact absurd H (by simp)
      ·
       rw [if_neg c65] at H
       have c65b0 : decide (x16_1 < 8) = false := decide_eq_false c65
       clear c65
       have H' := Aside0.mk H
       clear H
       go_wp2
       go_meet
       case rel => exact ⟨_, (x14_1), H', ⟨by have := HK1.out; first | omega | exact Nat.le_refl _⟩, ⟨by (with_reducible repeat (first | apply Kd.R_alloc | apply Kd.R_drewN | apply Kd.R_drew)); exact HO_13.out⟩, ⟨by (with_reducible repeat (first | apply Kd.R_alloc | apply Kd.R_drewN | apply Kd.R_drew)); exact Kd.R_mono HO_14.out (fun _ hk => (by simp [Value.ownBlock]))⟩, ⟨by first | exact Kd.R_nil _ _ _ _ _ | exact Kd.N_nil _ _ _ _ _ | exact Kd.V_nil _ _ _ _ _ | exact Kd.Q_nil _ _ _ _ _ | exact Kd.S_nil _ _ _ _ _⟩, ⟨by repeat (first | (with_reducible first | exact HB.out | apply below_alloc | apply pw_below_drewN | apply below_drew1) | exact HB.out)⟩⟩
     ·
      rw [if_neg c64] at H
      have c64b0 : decide (x16_1 < (l1.length : Int)) = false := decide_eq_false c64
      clear c64
      (first | rw [c64b0] | (simp only [i64_w, i32_w]; rw [c64b0]) | skip)
      have H' := Aside0.mk H
      clear H
      go_wp2
      go_meet
      case rel => exact ⟨_, (x14_1), H', ⟨by have := HK1.out; first | omega | exact Nat.le_refl _⟩, ⟨by (with_reducible repeat (first | apply Kd.R_alloc | apply Kd.R_drewN | apply Kd.R_drew)); exact HO_13.out⟩, ⟨by (with_reducible repeat (first | apply Kd.R_alloc | apply Kd.R_drewN | apply Kd.R_drew)); exact Kd.R_mono HO_14.out (fun _ hk => (by simp [Value.ownBlock]))⟩, ⟨by first | exact Kd.R_nil _ _ _ _ _ | exact Kd.N_nil _ _ _ _ _ | exact Kd.V_nil _ _ _ _ _ | exact Kd.Q_nil _ _ _ _ _ | exact Kd.S_nil _ _ _ _ _⟩, ⟨by repeat (first | (with_reducible first | exact HB.out | apply below_alloc | apply pw_below_drewN | apply below_drew1) | exact HB.out)⟩⟩
  case rest =>
   clear HC62
   try clear c1
   try clear c2
   try clear p2
   try clear c4
   try clear c5
   try clear c6
   try clear p6
   try clear c7
   try clear c8
   try clear p8
   try clear q8
   try clear hx8
   try clear c9
   try clear c9b0
   try clear c9b1
   try clear c10
   try clear c10b0
   try clear c10b1
   try clear c11
   try clear c16
   try clear c19
   try clear c20
   try clear c21
   try clear c22
   try clear c23
   try clear c24
   try clear c64
   try clear c64b0
   try clear p64
   try clear c65
   try clear c65b0
   try clear c66
   try clear c66b0
   try clear c68
   try clear hx875_0
   try clear p2
   try clear p6
   try clear p875
   try clear q875
   obtain ⟨kq, x14_61, HA, HJ61, HO_13, HO_14, HO_15, HB⟩ := hcut
   cases kq with
   | zero => exact absurd HA.out (by simp [customslaw35_TransitSeals.j1])
   | succ kj61 =>
    have H := HA.out
    clear HA
    simp only [customslaw35_TransitSeals.j1] at H
    have H' := Aside0.mk H
    clear H
    go_wp2
    go_loopg [15, 17] kj61 (fun kq v15 v17 w' => ∃ (x15_2 : List Int) (x17_2 : Int), v17 = .int .i64 x17_2 ∧ Aside0 (customslaw35_TransitSeals.l1 kq l2 (wrap64 (1 + t874)) t871 x14_61 x15_2 x17_2 = some r) ∧ Aside0 (kq ≤ kj61) ∧ Aside0 (Kd.R k53 53 w' w.heap.size (fun _ => True) v872 t871) ∧ Aside0 (Kd.R (Kd.int .i64) 3 w' w.heap.size (fun k_ => some k_ ≠ (v15 : Value).ownBlock) u14 x14_61) ∧ Aside0 (Kd.R (Kd.int .i64) 3 w' w.heap.size (fun k_ => some k_ ≠ (u14 : Value).ownBlock) v15 x15_2) ∧ Aside0 (Below w.heap.size w w'))
    case atStart => exact ⟨(([] : List Int)), (0), (by first | rfl | (simp; done) | (simp [*]; done)), H', ⟨Nat.le_refl _⟩, ⟨by (with_reducible repeat (first | apply Kd.R_alloc | apply Kd.R_drewN | apply Kd.R_drew)); exact HO_13.out⟩, ⟨by (with_reducible repeat (first | apply Kd.R_alloc | apply Kd.R_drewN | apply Kd.R_drew)); exact HO_14.out⟩, ⟨by (with_reducible repeat (first | apply Kd.R_alloc | apply Kd.R_drewN | apply Kd.R_drew)); exact HO_15.out⟩, ⟨by repeat (first | (with_reducible first | exact HB.out | apply below_alloc | apply pw_below_drewN | apply below_drew1) | exact HB.out)⟩⟩
    case round =>
     clear H'
     try clear c1
     try clear c2
     try clear p2
     try clear c4
     try clear c5
     try clear c6
     try clear p6
     try clear c7
     try clear c8
     try clear p8
     try clear q8
     try clear hx8
     try clear c9
     try clear c9b0
     try clear c9b1
     try clear c10
     try clear c10b0
     try clear c10b1
     try clear c11
     try clear c16
     try clear c19
     try clear c20
     try clear c21
     try clear c22
     try clear c23
     try clear c24
     try clear c64
     try clear c64b0
     try clear p64
     try clear c65
     try clear c65b0
     try clear c66
     try clear c66b0
     try clear c68
     try clear hx875_0
     try clear p2
     try clear p6
     try clear p64
     try clear p8
     try clear p875
     try clear q8
     try clear q875
     obtain ⟨x15_2, x17_2, rfl, HA, HK2, HO_13, HO_14, HO_15, HB⟩ := hrel
     cases gk with
     | zero => exact absurd HA.out (by simp [customslaw35_TransitSeals.l1])
     | succ k2 =>
      have H := HA.out
      clear HA
      simp only [customslaw35_TransitSeals.l1] at H
      by_cases c70 : x17_2 < (l2.length : Int)
      ·
       rw [if_pos c70] at H
       have c70b0 : decide (x17_2 < (l2.length : Int)) = true := decide_eq_true c70
       clear c70
       by_cases c71 : x17_2 < 8
       ·
        rw [if_pos c71] at H
        have c71b0 : decide (x17_2 < 8) = true := decide_eq_true c71
        clear c71
        by_cases c72 : 0 ≤ x17_2
        ·
         rw [if_pos c72] at H
         have c72b0 : decide (0 ≤ x17_2) = true := decide_eq_true c72
         clear c72
         replace H := Option.bind_eq_some_iff.mp H
         obtain ⟨t881, A730, H⟩ := H
         replace H : (if x15_2.length < 17592186044416 then (customslaw35_TransitSeals.l1 k2 l2 (wrap64 (1 + t874)) t871 x14_61 (x15_2 ++ [t881]) (wrap64 (x17_2 + 1))) else (none)) = some r := H
         have A73 := Aside0.mk A730
         clear A730
         by_cases c74 : x15_2.length < 17592186044416
         ·
          rw [if_pos c74] at H
          have LMc74 := Aside0.mk c74
          clear c74
          obtain ⟨y882, hy882⟩ : ∃ y_ : List Int, y_ = (x15_2 ++ [t881]) := ⟨_, rfl⟩
          replace H : (customslaw35_TransitSeals.l1 k2 l2 (wrap64 (1 + t874)) t871 x14_61 y882 (wrap64 (x17_2 + 1))) = some r := by first | (rw [hy882]; with_reducible exact H) | (have H2_ := (Option.bind_some _ _).symm.trans H; rw [hy882]; with_reducible exact H2_) | (have H2_ := (Option.bind_some _ _).symm.trans H; with_reducible exact H2_) | with_reducible exact H | (rw [hy882]; exact H) | exact H
          have Ny882 := Aside0.mk hy882
          clear hy882
          have H' := Aside0.mk H
          clear H
          have p880 : 0 ≤ (x17_2 : Int) := of_decide_eq_true (by first | (with_reducible assumption) | assumption)
          have q880 : x17_2 < (l2.length : Int) := of_decide_eq_true (by first | (with_reducible assumption) | assumption)
          obtain ⟨ad880, e880, hx880_0⟩ := Kd.at_int HR2.out x17_2 p880 q880
          cases e880
          replace hx880_0 := (HB.out.cell (World.block_lt_of_cell? w _ hx880_0)).trans hx880_0
          replace p880 := eq_true p880
          replace q880 := eq_true q880
          go_wp2_with (first | ((with_reducible refine gate_callee (f := 8) rfl ?_); refine goesL_ (some 63) rfl rfl Tryd.func8 (by kernel_rfl) rfl #[.int .i64 (rd l2 x17_2), .int .i64 8] rfl (by (try simp only [List.map_toArray, List.map_cons, List.map_nil]); first | done | rfl | (simp only [List.length_drop, List.length_take]; rfl)) ?_; (with_reducible refine (customsmade_Within.calls (rd l2 x17_2) 8 t881 _ A73.out).mono ?_); rintro e w' ⟨rfl, ⟨nd, rfl⟩⟩; refine ⟨_, rfl, ?_⟩) | ((with_reducible refine gate_builtin (b := .append) (xs := #[.tmp 58, .tmp 64]) rfl ?_); (try (refine gate_guard (by rfl) ?_; dsimp only)); at_builtin; refine Kd.R_append (Kd.int .i64) (w0 := w) w.heap.size rfl (.tmp 58) (.tmp 64) 25 3 (.int .i64 0) 8 rfl Tryd.underlying25 info3 rfl (by decide) (by omega) u15 x15_2 t881 [.int .i64 t881] (fun k_ => some k_ ≠ (u14 : Value).ownBlock) (fun _ => False) rfl rfl ?aP (fun _ hk => hk.elim) ?aF ?aO ?aB ?aS ?aL ?_; (case aP => exact rfl); (case aB => exact (by repeat (first | (with_reducible first | exact HB.out | apply below_alloc | apply pw_below_drewN | apply below_drew1) | exact HB.out))); (case aF => exact (fun k_ hk => Kd.fresh' (Kd.R_lt (by (with_reducible repeat (first | apply Kd.R_alloc | apply Kd.R_drewN | apply Kd.R_drew)); exact HO_14.out)) k_ hk)); (case aO => exact (by (with_reducible repeat (first | apply Kd.R_alloc | apply Kd.R_drewN | apply Kd.R_drew)); exact HO_15.out)); (case aS => exact (below_size (by repeat (first | (with_reducible first | exact HB.out | apply below_alloc | apply pw_below_drewN | apply below_drew1) | exact HB.out)))); (case aL => have := LMc74.out; omega); intro v883 w75 ho hb hg hat; rw [← Ny882.out] at ho; have n0_ := Aside0.mk (Kd.R_over' (by (with_reducible repeat (first | apply Kd.R_alloc | apply Kd.R_drewN | apply Kd.R_drew)); exact HO_13.out) (Kd.R_typed (by (with_reducible repeat (first | apply Kd.R_alloc | apply Kd.R_drewN | apply Kd.R_drew)); exact HO_15.out)) (by decide) hg); have n1_ := Aside0.mk (Kd.R_after (ok := (fun _ => True)) (by (with_reducible repeat (first | apply Kd.R_alloc | apply Kd.R_drewN | apply Kd.R_drew)); exact Kd.R_mono HO_14.out (fun _ hk => ⟨trivial, hk⟩)) hg hat); have n2_ := Aside0.mk (hb); have n3_ := Aside0.mk (ho); clear HO_13; clear HO_14; clear HB; clear HO_15; have HO_13 := n0_; have HO_14 := n1_; have HB := n2_; have HO884 := n3_; clear n0_ n1_ n2_ n3_; clear ho hb hg hat))
          go_roundg k2
          case measure => have := HJ61.out; have := HK2.out; omega
          case rel => exact ⟨(y882), (wrap64 (x17_2 + 1)), (by first | rfl | (simp; done) | (simp [*]; done)), H', ⟨by have := HJ61.out; have := HK2.out; omega⟩, ⟨by (with_reducible repeat (first | apply Kd.R_alloc | apply Kd.R_drewN | apply Kd.R_drew)); exact HO_13.out⟩, ⟨by (with_reducible repeat (first | apply Kd.R_alloc | apply Kd.R_drewN | apply Kd.R_drew)); exact Kd.R_mono HO_14.out (fun _ hk => hk.2)⟩, ⟨by (with_reducible repeat (first | apply Kd.R_alloc | apply Kd.R_drewN | apply Kd.R_drew)); exact HO884.out⟩, ⟨by repeat (first | (with_reducible first | exact HB.out | apply below_alloc | apply pw_below_drewN | apply below_drew1) | exact HB.out)⟩⟩
         ·
          rw [if_neg c74] at H
          exact absurd H (by simp)
        ·
         rw [if_neg c72] at H
         exact absurd H (by simp)
       ·
        rw [if_neg c71] at H
        have c71b0 : decide (x17_2 < 8) = false := decide_eq_false c71
        clear c71
        have HC76 := Aside0.mk H
        clear H
        go_upto_region 14 with (fail)
        go_cut [80] (fun v80 wc => ∃ (kq : Nat) (x80_75 : Bool), v80 = .bool x80_75 ∧ Aside0 (customslaw35_TransitSeals.j3 kq x14_61 x15_2 (wrap64 (1 + t874)) t871 x80_75 = some r) ∧ Aside0 (kq ≤ k2) ∧ Aside0 (Kd.R (Kd.int .i64) 3 wc w.heap.size (fun k_ => some k_ ≠ (u15 : Value).ownBlock) u14 x14_61) ∧ Aside0 (Kd.R (Kd.int .i64) 3 wc w.heap.size (fun k_ => some k_ ≠ (u14 : Value).ownBlock) u15 x15_2) ∧ Aside0 (Kd.R k53 53 wc w.heap.size (fun _ => True) v872 t871) ∧ Aside0 (Below w.heap.size w wc))
        case first =>
         have H := HC76.out
         clear HC76
         by_cases c77 : (t871.length : Int) > 200
         ·
          rw [if_pos c77] at H
          have c77b0 : decide (200 < (t871.length : Int)) = true := decide_eq_true c77
          have c77b1 : decide (200 < t871.length) = true := decide_eq_true (by omega)
          clear c77
          (first | rw [c77b0] | (simp only [i64_w, i32_w]; rw [c77b0]) | skip)
          have H' := Aside0.mk H
          clear H
          obtain ⟨Ao78, co78, eo78⟩ := Kd.R_slice HO_13.out
          subst eo78
          go_wp2
          go_meet
          case rel => exact ⟨_, (true), (by first | rfl | (simp; done) | (simp [*]; done)), H', ⟨by have := HJ61.out; have := HK2.out; first | omega | exact Nat.le_refl _⟩, ⟨by (with_reducible repeat (first | apply Kd.R_alloc | apply Kd.R_drewN | apply Kd.R_drew)); exact HO_14.out⟩, ⟨by (with_reducible repeat (first | apply Kd.R_alloc | apply Kd.R_drewN | apply Kd.R_drew)); exact HO_15.out⟩, ⟨by (with_reducible repeat (first | apply Kd.R_alloc | apply Kd.R_drewN | apply Kd.R_drew)); exact HO_13.out⟩, ⟨by repeat (first | (with_reducible first | exact HB.out | apply below_alloc | apply pw_below_drewN | apply below_drew1) | exact HB.out)⟩⟩
         ·
          rw [if_neg c77] at H
          have c77b0 : decide (200 < (t871.length : Int)) = false := decide_eq_false c77
          have c77b1 : decide (200 < t871.length) = false := decide_eq_false (by omega)
          clear c77
          (first | rw [c77b0] | (simp only [i64_w, i32_w]; rw [c77b0]) | skip)
          by_cases c79 : (x14_61.length : Int) > 200
          ·
           rw [if_pos c79] at H
           have c79b0 : decide (200 < (x14_61.length : Int)) = true := decide_eq_true c79
           have c79b1 : decide (200 < x14_61.length) = true := decide_eq_true (by omega)
           clear c79
           have H' := Aside0.mk H
           clear H
           obtain ⟨Ao80, co80, eo80⟩ := Kd.R_slice HO_13.out
           subst eo80
           obtain ⟨Ao81, co81, eo81⟩ := Kd.R_slice HO_14.out
           subst eo81
           go_wp2
           go_meet
           case rel => exact ⟨_, (true), (by first | rfl | (simp; done) | (simp [*]; done)), H', ⟨by have := HJ61.out; have := HK2.out; first | omega | exact Nat.le_refl _⟩, ⟨by (with_reducible repeat (first | apply Kd.R_alloc | apply Kd.R_drewN | apply Kd.R_drew)); exact HO_14.out⟩, ⟨by (with_reducible repeat (first | apply Kd.R_alloc | apply Kd.R_drewN | apply Kd.R_drew)); exact HO_15.out⟩, ⟨by (with_reducible repeat (first | apply Kd.R_alloc | apply Kd.R_drewN | apply Kd.R_drew)); exact HO_13.out⟩, ⟨by repeat (first | (with_reducible first | exact HB.out | apply below_alloc | apply pw_below_drewN | apply below_drew1) | exact HB.out)⟩⟩
          ·
           rw [if_neg c79] at H
           have c79b0 : decide (200 < (x14_61.length : Int)) = false := decide_eq_false c79
           have c79b1 : decide (200 < x14_61.length) = false := decide_eq_false (by omega)
           clear c79
           have H' := Aside0.mk H
           clear H
           obtain ⟨Ao82, co82, eo82⟩ := Kd.R_slice HO_13.out
           subst eo82
           obtain ⟨Ao83, co83, eo83⟩ := Kd.R_slice HO_14.out
           subst eo83
           obtain ⟨Ao84, co84, eo84⟩ := Kd.R_slice HO_15.out
           subst eo84
           go_wp2
           go_meet
           case rel => exact ⟨_, (decide ((x15_2.length : Int) > 200)), (by first | rfl | (simp; done) | (simp [*]; done)), H', ⟨by have := HJ61.out; have := HK2.out; first | omega | exact Nat.le_refl _⟩, ⟨by (with_reducible repeat (first | apply Kd.R_alloc | apply Kd.R_drewN | apply Kd.R_drew)); exact HO_14.out⟩, ⟨by (with_reducible repeat (first | apply Kd.R_alloc | apply Kd.R_drewN | apply Kd.R_drew)); exact HO_15.out⟩, ⟨by (with_reducible repeat (first | apply Kd.R_alloc | apply Kd.R_drewN | apply Kd.R_drew)); exact HO_13.out⟩, ⟨by repeat (first | (with_reducible first | exact HB.out | apply below_alloc | apply pw_below_drewN | apply below_drew1) | exact HB.out)⟩⟩
        case rest =>
         clear HC76
         try clear c1
         try clear c2
         try clear p2
         try clear c4
         try clear c5
         try clear c6
         try clear p6
         try clear c7
         try clear c8
         try clear p8
         try clear q8
         try clear hx8
         try clear c9
         try clear c9b0
         try clear c9b1
         try clear c10
         try clear c10b0
         try clear c10b1
         try clear c11
         try clear c16
         try clear c19
         try clear c20
         try clear c21
         try clear c22
         try clear c23
         try clear c24
         try clear c64
         try clear c64b0
         try clear p64
         try clear c65
         try clear c65b0
         try clear c66
         try clear c66b0
         try clear c68
         try clear c70
         try clear c70b0
         try clear c71
         try clear c71b0
         try clear c72
         try clear c72b0
         try clear c74
         try clear c77
         try clear c77b0
         try clear c77b1
         try clear c79
         try clear c79b0
         try clear c79b1
         try clear hx875_0
         try clear hx880_0
         try clear p2
         try clear p6
         try clear p64
         try clear p8
         try clear p875
         try clear p880
         try clear q8
         try clear q875
         try clear q880
         obtain ⟨kq, x80_75, rfl, HA, HJ75, HO_1, HO_2, HO_13, HB⟩ := hcut
         cases kq with
         | zero => exact absurd HA.out (by simp [customslaw35_TransitSeals.j3])
         | succ kj75 =>
          have H := HA.out
          clear HA
          simp only [customslaw35_TransitSeals.j3] at H
          by_cases c85 : x80_75 = true
          ·
           subst c85
           have H1 : ((customslaw35_awake.f).bind fun t885 => (some t885)) = some r := by rw [if_pos rfl] at H; exact H
           clear H
           have H := H1
           clear H1
           replace H := Option.bind_eq_some_iff.mp H
           obtain ⟨t885, A860, H⟩ := H
           replace H : (some t885) = some r := H
           have A86 := Aside0.mk A860
           clear A860
           obtain rfl := Option.some.inj H
           go_wp2_with (first | ((with_reducible refine gate_callee (f := 16) rfl ?_); refine goesL_ (some 81) rfl rfl Tryd.func16 (by kernel_rfl) rfl #[] rfl (by (try simp only [List.map_toArray, List.map_cons, List.map_nil]); first | done | rfl | (simp only [List.length_drop, List.length_take]; rfl)) ?_; (with_reducible refine (customslaw35_awake.calls  t885 _ ?side1 A86.out).mono ?_); (case side1 => exact GL_changes.of_below HB.out HG_changes.out); rintro e w87 ⟨rfl, hb⟩; refine ⟨_, rfl, ?_⟩; have n0_ := Aside0.mk (Kd.R_below HO_1.out hb); have n1_ := Aside0.mk (Kd.R_below HO_2.out hb); have n2_ := Aside0.mk (Kd.R_below HO_13.out hb); have n3_ := Aside0.mk (below_step HB.out hb); clear HO_1; clear HO_2; clear HO_13; clear HB; have HO_1 := n0_; have HO_2 := n1_; have HO_13 := n2_; have HB := n3_; clear n0_ n1_ n2_ n3_; (try clear hb); (try clear hb2); (try clear hk); (try clear hi)))
           go_ret
           exact ⟨by first | rfl | (simp [errW_none, errW_some] <;> rfl) | (simp [*, errW_none, errW_some] <;> rfl), by repeat (first | (with_reducible first | exact HB.out | apply below_alloc | apply pw_below_drewN | apply below_drew1) | exact HB.out)⟩
          ·
           replace c85 := Bool.eq_false_iff.mpr c85
           subst c85
           have H1 : ((transit_Compare.f x14_61 x15_2).bind fun bt886 => ((customsref33_Compare.f kj75 x14_61 x15_2).bind fun bt892 => ((transit_Seals.f x14_61 (wrap64 (1 + t874)) t871).bind fun t898 => ((customsref33_Seals.f kj75 x14_61 (wrap64 (1 + t874)) t871).bind fun t901 => ((customsref33_SameInts.f kj75 t898 t901).bind fun t904 => (if t904 = true then ((customsref33_SameInts.f kj75 bt886.1 bt892.1).bind fun t905 => (if t905 = true then ((customsref33_SameInts.f kj75 bt886.2 bt892.2).bind fun t906 => (if t906 = true then ((customslaw35_awake.f).bind fun t907 => (some t907)) else (some false))) else (some false))) else (some false))))))) = some r := by rw [if_neg (show ¬ (false = true) by decide)] at H; exact H
           clear H
           have H := H1
           clear H1
           replace H := Option.bind_eq_some_iff.mp H
           obtain ⟨⟨t886, t887⟩, A880, H⟩ := H
           replace H : ((customsref33_Compare.f kj75 x14_61 x15_2).bind fun bt892 => ((transit_Seals.f x14_61 (wrap64 (1 + t874)) t871).bind fun t898 => ((customsref33_Seals.f kj75 x14_61 (wrap64 (1 + t874)) t871).bind fun t901 => ((customsref33_SameInts.f kj75 t898 t901).bind fun t904 => (if t904 = true then ((customsref33_SameInts.f kj75 t886 bt892.1).bind fun t905 => (if t905 = true then ((customsref33_SameInts.f kj75 t887 bt892.2).bind fun t906 => (if t906 = true then ((customslaw35_awake.f).bind fun t907 => (some t907)) else (some false))) else (some false))) else (some false)))))) = some r := H
           have A88 := Aside0.mk A880
           clear A880
           replace H := Option.bind_eq_some_iff.mp H
           obtain ⟨⟨t892, t895⟩, A890, H⟩ := H
           replace H : ((transit_Seals.f x14_61 (wrap64 (1 + t874)) t871).bind fun t898 => ((customsref33_Seals.f kj75 x14_61 (wrap64 (1 + t874)) t871).bind fun t901 => ((customsref33_SameInts.f kj75 t898 t901).bind fun t904 => (if t904 = true then ((customsref33_SameInts.f kj75 t886 t892).bind fun t905 => (if t905 = true then ((customsref33_SameInts.f kj75 t887 t895).bind fun t906 => (if t906 = true then ((customslaw35_awake.f).bind fun t907 => (some t907)) else (some false))) else (some false))) else (some false))))) = some r := H
           have A89 := Aside0.mk A890
           clear A890
           replace H := Option.bind_eq_some_iff.mp H
           obtain ⟨t898, A900, H⟩ := H
           replace H : ((customsref33_Seals.f kj75 x14_61 (wrap64 (1 + t874)) t871).bind fun t901 => ((customsref33_SameInts.f kj75 t898 t901).bind fun t904 => (if t904 = true then ((customsref33_SameInts.f kj75 t886 t892).bind fun t905 => (if t905 = true then ((customsref33_SameInts.f kj75 t887 t895).bind fun t906 => (if t906 = true then ((customslaw35_awake.f).bind fun t907 => (some t907)) else (some false))) else (some false))) else (some false)))) = some r := H
           have A90 := Aside0.mk A900
           clear A900
           replace H := Option.bind_eq_some_iff.mp H
           obtain ⟨t901, A910, H⟩ := H
           replace H : ((customsref33_SameInts.f kj75 t898 t901).bind fun t904 => (if t904 = true then ((customsref33_SameInts.f kj75 t886 t892).bind fun t905 => (if t905 = true then ((customsref33_SameInts.f kj75 t887 t895).bind fun t906 => (if t906 = true then ((customslaw35_awake.f).bind fun t907 => (some t907)) else (some false))) else (some false))) else (some false))) = some r := H
           have A91 := Aside0.mk A910
           clear A910
           replace H := Option.bind_eq_some_iff.mp H
           obtain ⟨t904, A920, H⟩ := H
           replace H : (if t904 = true then ((customsref33_SameInts.f kj75 t886 t892).bind fun t905 => (if t905 = true then ((customsref33_SameInts.f kj75 t887 t895).bind fun t906 => (if t906 = true then ((customslaw35_awake.f).bind fun t907 => (some t907)) else (some false))) else (some false))) else (some false)) = some r := H
           have A92 := Aside0.mk A920
           clear A920
           by_cases c93 : t904 = true
           ·
            subst c93
            have H1 : ((customsref33_SameInts.f kj75 t886 t892).bind fun t905 => (if t905 = true then ((customsref33_SameInts.f kj75 t887 t895).bind fun t906 => (if t906 = true then ((customslaw35_awake.f).bind fun t907 => (some t907)) else (some false))) else (some false))) = some r := by rw [if_pos rfl] at H; exact H
            clear H
            have H := H1
            clear H1
            replace H := Option.bind_eq_some_iff.mp H
            obtain ⟨t905, A940, H⟩ := H
            replace H : (if t905 = true then ((customsref33_SameInts.f kj75 t887 t895).bind fun t906 => (if t906 = true then ((customslaw35_awake.f).bind fun t907 => (some t907)) else (some false))) else (some false)) = some r := H
            have A94 := Aside0.mk A940
            clear A940
            by_cases c95 : t905 = true
            ·
             subst c95
             have H1 : ((customsref33_SameInts.f kj75 t887 t895).bind fun t906 => (if t906 = true then ((customslaw35_awake.f).bind fun t907 => (some t907)) else (some false))) = some r := by rw [if_pos rfl] at H; exact H
             clear H
             have H := H1
             clear H1
             replace H := Option.bind_eq_some_iff.mp H
             obtain ⟨t906, A960, H⟩ := H
             replace H : (if t906 = true then ((customslaw35_awake.f).bind fun t907 => (some t907)) else (some false)) = some r := H
             have A96 := Aside0.mk A960
             clear A960
             by_cases c97 : t906 = true
             ·
              subst c97
              have H1 : ((customslaw35_awake.f).bind fun t907 => (some t907)) = some r := by rw [if_pos rfl] at H; exact H
              clear H
              have H := H1
              clear H1
              replace H := Option.bind_eq_some_iff.mp H
              obtain ⟨t907, A980, H⟩ := H
              replace H : (some t907) = some r := H
              have A98 := Aside0.mk A980
              clear A980
              obtain rfl := Option.some.inj H
              obtain ⟨Ao99, co99, eo99⟩ := Kd.R_slice HO_1.out
              subst eo99
              obtain ⟨Ao100, co100, eo100⟩ := Kd.R_slice HO_2.out
              subst eo100
              go_wp2_with (first | ((with_reducible refine gate_callee (f := 20) rfl ?_); refine goesL_ (some 85) rfl rfl Tryd.func20 (by kernel_rfl) rfl #[.slice Ao99 x14_61.length co99, .slice Ao100 x15_2.length co100] rfl (by (try simp only [List.map_toArray, List.map_cons, List.map_nil]); first | done | rfl | (simp only [List.length_drop, List.length_take]; rfl)) ?_; (with_reducible refine (transit_Compare.calls _ _ x14_61 _ _ x15_2 t886 t887 _ ?side1 ?side2 ?side3 ?side4 A88.out).mono ?_); (case side1 => repeat (first | exact (Kd.R_reads' HO_1.out).2.2 | (with_reducible refine Kd.C_alloc ?_ _) | (with_reducible refine Kd.C_drewN ?_ _) | (with_reducible refine Kd.C_drew ?_))); (case side2 => exact (Kd.R_reads' HO_1.out).2.1); (case side3 => repeat (first | exact (Kd.R_reads' HO_2.out).2.2 | (with_reducible refine Kd.C_alloc ?_ _) | (with_reducible refine Kd.C_drewN ?_ _) | (with_reducible refine Kd.C_drew ?_))); (case side4 => exact (Kd.R_reads' HO_2.out).2.1); rintro e w101 ⟨v888, v890, rfl, ho0, ho1, hb⟩; refine ⟨_, rfl, ?_⟩; have n0_ := Aside0.mk (Kd.R_mono (Kd.R_told (Kd.R_told (Kd.R_old (by (with_reducible repeat (first | apply Kd.R_alloc | apply Kd.R_drewN | apply Kd.R_drew)); exact HO_1.out) hb) (Kd.R_base ho0)) (Kd.R_base ho1)) (fun _ h_ => h_.1)); have n1_ := Aside0.mk (Kd.R_mono (Kd.R_told (Kd.R_told (Kd.R_old (by (with_reducible repeat (first | apply Kd.R_alloc | apply Kd.R_drewN | apply Kd.R_drew)); exact HO_2.out) hb) (Kd.R_base ho0)) (Kd.R_base ho1)) (fun _ h_ => h_.1)); have n2_ := Aside0.mk (Kd.R_below (by (with_reducible repeat (first | apply Kd.R_alloc | apply Kd.R_drewN | apply Kd.R_drew)); exact HO_13.out) hb); have n3_ := Aside0.mk (Kd.R_lower (Kd.R_new' (Kd.R_new' ho0 (Kd.R_lt (by (with_reducible repeat (first | apply Kd.R_alloc | apply Kd.R_drewN | apply Kd.R_drew)); exact HO_1.out))) (Kd.R_lt (by (with_reducible repeat (first | apply Kd.R_alloc | apply Kd.R_drewN | apply Kd.R_drew)); exact HO_2.out))) (below_size (by repeat (first | (with_reducible first | exact HB.out | apply below_alloc | apply pw_below_drewN | apply below_drew1) | exact HB.out)))); have n4_ := Aside0.mk (Kd.R_lower (Kd.R_new' (Kd.R_new' ho1 (Kd.R_lt (by (with_reducible repeat (first | apply Kd.R_alloc | apply Kd.R_drewN | apply Kd.R_drew)); exact HO_1.out))) (Kd.R_lt (by (with_reducible repeat (first | apply Kd.R_alloc | apply Kd.R_drewN | apply Kd.R_drew)); exact HO_2.out))) (below_size (by repeat (first | (with_reducible first | exact HB.out | apply below_alloc | apply pw_below_drewN | apply below_drew1) | exact HB.out)))); have n5_ := Aside0.mk (below_step (by repeat (first | (with_reducible first | exact HB.out | apply below_alloc | apply pw_below_drewN | apply below_drew1) | exact HB.out)) hb); clear HO_1; clear HO_2; clear HO_13; clear HB; have HO_1 := n0_; have HO_2 := n1_; have HO_13 := n2_; have HO889 := n3_; have HO891 := n4_; have HB := n5_; clear n0_ n1_ n2_ n3_ n4_ n5_; (try clear hb); (try clear hb2); (try clear hk); (try clear hi); (try clear ho0); (try clear ho1)) | ((with_reducible refine gate_callee (f := 21) rfl ?_); refine goesL_ (some 91) rfl rfl Tryd.func21 (by kernel_rfl) rfl #[.slice Ao99 x14_61.length co99, .slice Ao100 x15_2.length co100] rfl (by (try simp only [List.map_toArray, List.map_cons, List.map_nil]); first | done | rfl | (simp only [List.length_drop, List.length_take]; rfl)) ?_; (with_reducible refine (customsref33_Compare.calls kj75 _ _ x14_61 _ _ x15_2 t892 t895 _ ?side1 ?side2 ?side3 ?side4 A89.out).mono ?_); (case side1 => repeat (first | exact (Kd.R_reads' HO_1.out).2.2 | (with_reducible refine Kd.C_alloc ?_ _) | (with_reducible refine Kd.C_drewN ?_ _) | (with_reducible refine Kd.C_drew ?_))); (case side2 => exact (Kd.R_reads' HO_1.out).2.1); (case side3 => repeat (first | exact (Kd.R_reads' HO_2.out).2.2 | (with_reducible refine Kd.C_alloc ?_ _) | (with_reducible refine Kd.C_drewN ?_ _) | (with_reducible refine Kd.C_drew ?_))); (case side4 => exact (Kd.R_reads' HO_2.out).2.1); rintro e w102 ⟨v893, v896, rfl, ho0, ho1, hb⟩; refine ⟨_, rfl, ?_⟩; have n0_ := Aside0.mk (Kd.R_below (by (with_reducible repeat (first | apply Kd.R_alloc | apply Kd.R_drewN | apply Kd.R_drew)); exact HO_1.out) hb); have n1_ := Aside0.mk (Kd.R_below (by (with_reducible repeat (first | apply Kd.R_alloc | apply Kd.R_drewN | apply Kd.R_drew)); exact HO_2.out) hb); have n2_ := Aside0.mk (Kd.R_below (by (with_reducible repeat (first | apply Kd.R_alloc | apply Kd.R_drewN | apply Kd.R_drew)); exact HO_13.out) hb); have n3_ := Aside0.mk (Kd.R_below (by (with_reducible repeat (first | apply Kd.R_alloc | apply Kd.R_drewN | apply Kd.R_drew)); exact HO889.out) hb); have n4_ := Aside0.mk (Kd.R_below (by (with_reducible repeat (first | apply Kd.R_alloc | apply Kd.R_drewN | apply Kd.R_drew)); exact HO891.out) hb); have n5_ := Aside0.mk (Kd.V_lower (Kd.V_mono (ok' := fun k_ => some k_ ≠ (.slice Ao99 x14_61.length co99 : Value).ownBlock ∧ some k_ ≠ (.slice Ao100 x15_2.length co100 : Value).ownBlock ∧ some k_ ≠ (v872 : Value).ownBlock ∧ some k_ ≠ (v888 : Value).ownBlock ∧ some k_ ≠ (v890 : Value).ownBlock) ho0 (fun k_ hk_ => ⟨(Kd.fresh' (Kd.R_lt (by (with_reducible repeat (first | apply Kd.R_alloc | apply Kd.R_drewN | apply Kd.R_drew)); exact HO_1.out)) k_ hk_), (Kd.fresh' (Kd.R_lt (by (with_reducible repeat (first | apply Kd.R_alloc | apply Kd.R_drewN | apply Kd.R_drew)); exact HO_2.out)) k_ hk_), (Kd.fresh' (Kd.R_lt (by (with_reducible repeat (first | apply Kd.R_alloc | apply Kd.R_drewN | apply Kd.R_drew)); exact HO_13.out)) k_ hk_), (Kd.fresh' (Kd.R_lt (by (with_reducible repeat (first | apply Kd.R_alloc | apply Kd.R_drewN | apply Kd.R_drew)); exact HO889.out)) k_ hk_), (Kd.fresh' (Kd.R_lt (by (with_reducible repeat (first | apply Kd.R_alloc | apply Kd.R_drewN | apply Kd.R_drew)); exact HO891.out)) k_ hk_)⟩)) (below_size (by repeat (first | (with_reducible first | exact HB.out | apply below_alloc | apply pw_below_drewN | apply below_drew1) | exact HB.out)))); have n6_ := Aside0.mk (Kd.V_lower (Kd.V_mono (ok' := fun k_ => some k_ ≠ (.slice Ao99 x14_61.length co99 : Value).ownBlock ∧ some k_ ≠ (.slice Ao100 x15_2.length co100 : Value).ownBlock ∧ some k_ ≠ (v872 : Value).ownBlock ∧ some k_ ≠ (v888 : Value).ownBlock ∧ some k_ ≠ (v890 : Value).ownBlock) ho1 (fun k_ hk_ => ⟨(Kd.fresh' (Kd.R_lt (by (with_reducible repeat (first | apply Kd.R_alloc | apply Kd.R_drewN | apply Kd.R_drew)); exact HO_1.out)) k_ hk_), (Kd.fresh' (Kd.R_lt (by (with_reducible repeat (first | apply Kd.R_alloc | apply Kd.R_drewN | apply Kd.R_drew)); exact HO_2.out)) k_ hk_), (Kd.fresh' (Kd.R_lt (by (with_reducible repeat (first | apply Kd.R_alloc | apply Kd.R_drewN | apply Kd.R_drew)); exact HO_13.out)) k_ hk_), (Kd.fresh' (Kd.R_lt (by (with_reducible repeat (first | apply Kd.R_alloc | apply Kd.R_drewN | apply Kd.R_drew)); exact HO889.out)) k_ hk_), (Kd.fresh' (Kd.R_lt (by (with_reducible repeat (first | apply Kd.R_alloc | apply Kd.R_drewN | apply Kd.R_drew)); exact HO891.out)) k_ hk_)⟩)) (below_size (by repeat (first | (with_reducible first | exact HB.out | apply below_alloc | apply pw_below_drewN | apply below_drew1) | exact HB.out)))); have n7_ := Aside0.mk (below_step (by repeat (first | (with_reducible first | exact HB.out | apply below_alloc | apply pw_below_drewN | apply below_drew1) | exact HB.out)) hb); clear HO_1; clear HO_2; clear HO_13; clear HO889; clear HO891; clear HB; have HO_1 := n0_; have HO_2 := n1_; have HO_13 := n2_; have HO889 := n3_; have HO891 := n4_; have HO894 := n5_; have HO897 := n6_; have HB := n7_; clear n0_ n1_ n2_ n3_ n4_ n5_ n6_ n7_; (try clear hb); (try clear hb2); (try clear hk); (try clear hi); (try clear ho0); (try clear ho1); obtain ⟨Ao103, co103, eo103⟩ := Kd.R_slice HO_13.out; subst eo103) | ((with_reducible refine gate_callee (f := 23) rfl ?_); refine goesL_ (some 97) rfl rfl Tryd.func23 (by kernel_rfl) rfl #[.slice Ao99 x14_61.length co99, .int .i64 (wrap64 (1 + t874)), .slice Ao103 t871.length co103] rfl (by (try simp only [List.map_toArray, List.map_cons, List.map_nil]); first | done | rfl | (simp only [List.length_drop, List.length_take]; rfl)) ?_; (with_reducible refine (transit_Seals.calls _ _ x14_61 (wrap64 (1 + t874)) _ _ t871 t898 _ ?side1 ?side2 ?side3 ?side4 A90.out).mono ?_); (case side1 => repeat (first | exact (Kd.R_reads' HO_1.out).2.2 | (with_reducible refine Kd.C_alloc ?_ _) | (with_reducible refine Kd.C_drewN ?_ _) | (with_reducible refine Kd.C_drew ?_))); (case side2 => exact (Kd.R_reads' HO_1.out).2.1); (case side3 => repeat (first | exact (Kd.R_reads' HO_13.out).2.2 | (with_reducible refine Kd.C_alloc ?_ _) | (with_reducible refine Kd.C_drewN ?_ _) | (with_reducible refine Kd.C_drew ?_))); (case side4 => exact (Kd.R_reads' HO_13.out).2.1); rintro e w104 ⟨v899, rfl, ho0, hb⟩; refine ⟨_, rfl, ?_⟩; have n0_ := Aside0.mk (Kd.R_elder' (by (with_reducible repeat (first | apply Kd.R_alloc | apply Kd.R_drewN | apply Kd.R_drew)); exact HO_1.out) (Kd.R_base ho0) hb); have n1_ := Aside0.mk (Kd.R_elder' (by (with_reducible repeat (first | apply Kd.R_alloc | apply Kd.R_drewN | apply Kd.R_drew)); exact HO_2.out) (Kd.R_base ho0) hb); have n2_ := Aside0.mk (Kd.R_below (by (with_reducible repeat (first | apply Kd.R_alloc | apply Kd.R_drewN | apply Kd.R_drew)); exact HO_13.out) hb); have n3_ := Aside0.mk (Kd.R_elder' (by (with_reducible repeat (first | apply Kd.R_alloc | apply Kd.R_drewN | apply Kd.R_drew)); exact HO889.out) (Kd.R_base ho0) hb); have n4_ := Aside0.mk (Kd.R_elder' (by (with_reducible repeat (first | apply Kd.R_alloc | apply Kd.R_drewN | apply Kd.R_drew)); exact HO891.out) (Kd.R_base ho0) hb); have n5_ := Aside0.mk (Kd.V_elder' (by (with_reducible repeat (first | apply Kd.V_alloc | apply Kd.V_drewN | apply Kd.V_drew)); exact HO894.out) (Kd.R_base ho0) hb); have n6_ := Aside0.mk (Kd.V_elder' (by (with_reducible repeat (first | apply Kd.V_alloc | apply Kd.V_drewN | apply Kd.V_drew)); exact HO897.out) (Kd.R_base ho0) hb); have n7_ := Aside0.mk (Kd.R_lower (Kd.R_new' (Kd.R_new' (Kd.R_new' (Kd.R_new' ho0 (Kd.R_lt (by (with_reducible repeat (first | apply Kd.R_alloc | apply Kd.R_drewN | apply Kd.R_drew)); exact HO_1.out))) (Kd.R_lt (by (with_reducible repeat (first | apply Kd.R_alloc | apply Kd.R_drewN | apply Kd.R_drew)); exact HO_2.out))) (Kd.R_lt (by (with_reducible repeat (first | apply Kd.R_alloc | apply Kd.R_drewN | apply Kd.R_drew)); exact HO889.out))) (Kd.R_lt (by (with_reducible repeat (first | apply Kd.R_alloc | apply Kd.R_drewN | apply Kd.R_drew)); exact HO891.out))) (below_size (by repeat (first | (with_reducible first | exact HB.out | apply below_alloc | apply pw_below_drewN | apply below_drew1) | exact HB.out)))); have n8_ := Aside0.mk (below_step (by repeat (first | (with_reducible first | exact HB.out | apply below_alloc | apply pw_below_drewN | apply below_drew1) | exact HB.out)) hb); clear HO_1; clear HO_2; clear HO_13; clear HO889; clear HO891; clear HO894; clear HO897; clear HB; have HO_1 := n0_; have HO_2 := n1_; have HO_13 := n2_; have HO889 := n3_; have HO891 := n4_; have HO894 := n5_; have HO897 := n6_; have HO900 := n7_; have HB := n8_; clear n0_ n1_ n2_ n3_ n4_ n5_ n6_ n7_ n8_; (try clear hb); (try clear hb2); (try clear hk); (try clear hi); (try clear ho0)) | ((with_reducible refine gate_callee (f := 24) rfl ?_); refine goesL_ (some 101) rfl rfl Tryd.func24 (by kernel_rfl) rfl #[.slice Ao99 x14_61.length co99, .int .i64 (wrap64 (1 + t874)), .slice Ao103 t871.length co103] rfl (by (try simp only [List.map_toArray, List.map_cons, List.map_nil]); first | done | rfl | (simp only [List.length_drop, List.length_take]; rfl)) ?_; (with_reducible refine (customsref33_Seals.calls kj75 _ _ x14_61 (wrap64 (1 + t874)) _ _ t871 t901 _ ?side1 ?side2 ?side3 ?side4 A91.out).mono ?_); (case side1 => repeat (first | exact (Kd.R_reads' HO_1.out).2.2 | (with_reducible refine Kd.C_alloc ?_ _) | (with_reducible refine Kd.C_drewN ?_ _) | (with_reducible refine Kd.C_drew ?_))); (case side2 => exact (Kd.R_reads' HO_1.out).2.1); (case side3 => repeat (first | exact (Kd.R_reads' HO_13.out).2.2 | (with_reducible refine Kd.C_alloc ?_ _) | (with_reducible refine Kd.C_drewN ?_ _) | (with_reducible refine Kd.C_drew ?_))); (case side4 => exact (Kd.R_reads' HO_13.out).2.1); rintro e w105 ⟨v902, rfl, ho0, hb⟩; refine ⟨_, rfl, ?_⟩; have n0_ := Aside0.mk (Kd.R_elder' (by (with_reducible repeat (first | apply Kd.R_alloc | apply Kd.R_drewN | apply Kd.R_drew)); exact HO_1.out) (Kd.R_base ho0) hb); have n1_ := Aside0.mk (Kd.R_elder' (by (with_reducible repeat (first | apply Kd.R_alloc | apply Kd.R_drewN | apply Kd.R_drew)); exact HO_2.out) (Kd.R_base ho0) hb); have n2_ := Aside0.mk (Kd.R_below (by (with_reducible repeat (first | apply Kd.R_alloc | apply Kd.R_drewN | apply Kd.R_drew)); exact HO_13.out) hb); have n3_ := Aside0.mk (Kd.R_elder' (by (with_reducible repeat (first | apply Kd.R_alloc | apply Kd.R_drewN | apply Kd.R_drew)); exact HO889.out) (Kd.R_base ho0) hb); have n4_ := Aside0.mk (Kd.R_elder' (by (with_reducible repeat (first | apply Kd.R_alloc | apply Kd.R_drewN | apply Kd.R_drew)); exact HO891.out) (Kd.R_base ho0) hb); have n5_ := Aside0.mk (Kd.V_elder' (by (with_reducible repeat (first | apply Kd.V_alloc | apply Kd.V_drewN | apply Kd.V_drew)); exact HO894.out) (Kd.R_base ho0) hb); have n6_ := Aside0.mk (Kd.V_elder' (by (with_reducible repeat (first | apply Kd.V_alloc | apply Kd.V_drewN | apply Kd.V_drew)); exact HO897.out) (Kd.R_base ho0) hb); have n7_ := Aside0.mk (Kd.R_elder' (by (with_reducible repeat (first | apply Kd.R_alloc | apply Kd.R_drewN | apply Kd.R_drew)); exact HO900.out) (Kd.R_base ho0) hb); have n8_ := Aside0.mk (Kd.R_lower (Kd.R_new' (Kd.R_new' (Kd.R_new' (Kd.R_new' (Kd.R_new' ho0 (Kd.R_lt (by (with_reducible repeat (first | apply Kd.R_alloc | apply Kd.R_drewN | apply Kd.R_drew)); exact HO_1.out))) (Kd.R_lt (by (with_reducible repeat (first | apply Kd.R_alloc | apply Kd.R_drewN | apply Kd.R_drew)); exact HO_2.out))) (Kd.R_lt (by (with_reducible repeat (first | apply Kd.R_alloc | apply Kd.R_drewN | apply Kd.R_drew)); exact HO889.out))) (Kd.R_lt (by (with_reducible repeat (first | apply Kd.R_alloc | apply Kd.R_drewN | apply Kd.R_drew)); exact HO891.out))) (Kd.R_lt (by (with_reducible repeat (first | apply Kd.R_alloc | apply Kd.R_drewN | apply Kd.R_drew)); exact HO900.out))) (below_size (by repeat (first | (with_reducible first | exact HB.out | apply below_alloc | apply pw_below_drewN | apply below_drew1) | exact HB.out)))); have n9_ := Aside0.mk (below_step (by repeat (first | (with_reducible first | exact HB.out | apply below_alloc | apply pw_below_drewN | apply below_drew1) | exact HB.out)) hb); clear HO_1; clear HO_2; clear HO_13; clear HO889; clear HO891; clear HO894; clear HO897; clear HO900; clear HB; have HO_1 := n0_; have HO_2 := n1_; have HO_13 := n2_; have HO889 := n3_; have HO891 := n4_; have HO894 := n5_; have HO897 := n6_; have HO900 := n7_; have HO903 := n8_; have HB := n9_; clear n0_ n1_ n2_ n3_ n4_ n5_ n6_ n7_ n8_ n9_; (try clear hb); (try clear hb2); (try clear hk); (try clear hi); (try clear ho0); obtain ⟨Ao106, co106, eo106⟩ := Kd.R_slice HO900.out; subst eo106; obtain ⟨Ao107, co107, eo107⟩ := Kd.R_slice HO903.out; subst eo107) | ((with_reducible refine gate_callee (f := 22) rfl ?_); refine goesL_ (some 102) rfl rfl Tryd.func22 (by kernel_rfl) rfl #[.slice Ao106 t898.length co106, .slice Ao107 t901.length co107] rfl (by (try simp only [List.map_toArray, List.map_cons, List.map_nil]); first | done | rfl | (simp only [List.length_drop, List.length_take]; rfl)) ?_; (with_reducible refine (customsref33_SameInts.calls kj75 _ _ t898 _ _ t901 true _ ?side1 ?side2 ?side3 ?side4 A92.out).mono ?_); (case side1 => repeat (first | exact (Kd.R_reads' HO900.out).2.2 | (with_reducible refine Kd.C_alloc ?_ _) | (with_reducible refine Kd.C_drewN ?_ _) | (with_reducible refine Kd.C_drew ?_))); (case side2 => exact (Kd.R_reads' HO900.out).2.1); (case side3 => repeat (first | exact (Kd.R_reads' HO903.out).2.2 | (with_reducible refine Kd.C_alloc ?_ _) | (with_reducible refine Kd.C_drewN ?_ _) | (with_reducible refine Kd.C_drew ?_))); (case side4 => exact (Kd.R_reads' HO903.out).2.1); rintro e w' ⟨rfl, ⟨nd, rfl⟩⟩; refine ⟨_, rfl, ?_⟩; obtain ⟨Ao108, co108, eo108⟩ := Kd.R_slice HO889.out; subst eo108; obtain ⟨Ao109, co109, eo109⟩ := Kd.V_slice HO894.out; subst eo109) | (go_at_call 22; (with_reducible refine (customsref33_SameInts.calls kj75 _ _ t886 _ _ t892 true _ ?side1 ?side2 ?side3 ?side4 A94.out).mono ?_); (case side1 => repeat (first | exact (Kd.R_reads' HO889.out).2.2 | (with_reducible refine Kd.C_alloc ?_ _) | (with_reducible refine Kd.C_drewN ?_ _) | (with_reducible refine Kd.C_drew ?_))); (case side2 => exact (Kd.R_reads' HO889.out).2.1); (case side3 => repeat (first | exact (Kd.V_reads' HO894.out).2.2 | (with_reducible refine Kd.C_alloc ?_ _) | (with_reducible refine Kd.C_drewN ?_ _) | (with_reducible refine Kd.C_drew ?_))); (case side4 => exact (Kd.V_reads' HO894.out).2.1); rintro e w' ⟨rfl, ⟨nd, rfl⟩⟩; obtain ⟨Ao110, co110, eo110⟩ := Kd.R_slice HO891.out; subst eo110; obtain ⟨Ao111, co111, eo111⟩ := Kd.V_slice HO897.out; subst eo111) | (go_at_call 22; (with_reducible refine (customsref33_SameInts.calls kj75 _ _ t887 _ _ t895 true _ ?side1 ?side2 ?side3 ?side4 A96.out).mono ?_); (case side1 => repeat (first | exact (Kd.R_reads' HO891.out).2.2 | (with_reducible refine Kd.C_alloc ?_ _) | (with_reducible refine Kd.C_drewN ?_ _) | (with_reducible refine Kd.C_drew ?_))); (case side2 => exact (Kd.R_reads' HO891.out).2.1); (case side3 => repeat (first | exact (Kd.V_reads' HO897.out).2.2 | (with_reducible refine Kd.C_alloc ?_ _) | (with_reducible refine Kd.C_drewN ?_ _) | (with_reducible refine Kd.C_drew ?_))); (case side4 => exact (Kd.V_reads' HO897.out).2.1); rintro e w' ⟨rfl, ⟨nd, rfl⟩⟩) | (go_at_call 16; (with_reducible refine (customslaw35_awake.calls  t907 _ ?side1 A98.out).mono ?_); (case side1 => exact GL_changes.of_below (by repeat (first | (with_reducible first | exact HB.out | apply below_alloc | apply pw_below_drewN | apply below_drew1) | exact HB.out)) HG_changes.out); rintro e w112 ⟨rfl, hb⟩; have n0_ := Aside0.mk (Kd.R_below (by (with_reducible repeat (first | apply Kd.R_alloc | apply Kd.R_drewN | apply Kd.R_drew)); exact HO_1.out) hb); have n1_ := Aside0.mk (Kd.R_below (by (with_reducible repeat (first | apply Kd.R_alloc | apply Kd.R_drewN | apply Kd.R_drew)); exact HO_2.out) hb); have n2_ := Aside0.mk (Kd.R_below (by (with_reducible repeat (first | apply Kd.R_alloc | apply Kd.R_drewN | apply Kd.R_drew)); exact HO_13.out) hb); have n3_ := Aside0.mk (Kd.R_below (by (with_reducible repeat (first | apply Kd.R_alloc | apply Kd.R_drewN | apply Kd.R_drew)); exact HO889.out) hb); have n4_ := Aside0.mk (Kd.R_below (by (with_reducible repeat (first | apply Kd.R_alloc | apply Kd.R_drewN | apply Kd.R_drew)); exact HO891.out) hb); have n5_ := Aside0.mk (Kd.V_below (by (with_reducible repeat (first | apply Kd.V_alloc | apply Kd.V_drewN | apply Kd.V_drew)); exact HO894.out) hb); have n6_ := Aside0.mk (Kd.V_below (by (with_reducible repeat (first | apply Kd.V_alloc | apply Kd.V_drewN | apply Kd.V_drew)); exact HO897.out) hb); have n7_ := Aside0.mk (Kd.R_below (by (with_reducible repeat (first | apply Kd.R_alloc | apply Kd.R_drewN | apply Kd.R_drew)); exact HO900.out) hb); have n8_ := Aside0.mk (Kd.R_below (by (with_reducible repeat (first | apply Kd.R_alloc | apply Kd.R_drewN | apply Kd.R_drew)); exact HO903.out) hb); have n9_ := Aside0.mk (below_step (by repeat (first | (with_reducible first | exact HB.out | apply below_alloc | apply pw_below_drewN | apply below_drew1) | exact HB.out)) hb); clear HO_1; clear HO_2; clear HO_13; clear HO889; clear HO891; clear HO894; clear HO897; clear HO900; clear HO903; clear HB; have HO_1 := n0_; have HO_2 := n1_; have HO_13 := n2_; have HO889 := n3_; have HO891 := n4_; have HO894 := n5_; have HO897 := n6_; have HO900 := n7_; have HO903 := n8_; have HB := n9_; clear n0_ n1_ n2_ n3_ n4_ n5_ n6_ n7_ n8_ n9_; (try clear hb); (try clear hb2); (try clear hk); (try clear hi)))
              go_ret
              exact ⟨by first | rfl | (simp [errW_none, errW_some] <;> rfl) | (simp [*, errW_none, errW_some] <;> rfl), by repeat (first | (with_reducible first | exact HB.out | apply below_alloc | apply pw_below_drewN | apply below_drew1) | exact HB.out)⟩
             ·
              replace c97 := Bool.eq_false_iff.mpr c97
              subst c97
              have H1 : (some false) = some r := by rw [if_neg (show ¬ (false = true) by decide)] at H; exact H
              clear H
              have H := H1
              clear H1
              obtain rfl := Option.some.inj H
              obtain ⟨Ao113, co113, eo113⟩ := Kd.R_slice HO_1.out
              subst eo113
              obtain ⟨Ao114, co114, eo114⟩ := Kd.R_slice HO_2.out
              subst eo114
              go_wp2_with (first | ((with_reducible refine gate_callee (f := 20) rfl ?_); refine goesL_ (some 85) rfl rfl Tryd.func20 (by kernel_rfl) rfl #[.slice Ao113 x14_61.length co113, .slice Ao114 x15_2.length co114] rfl (by (try simp only [List.map_toArray, List.map_cons, List.map_nil]); first | done | rfl | (simp only [List.length_drop, List.length_take]; rfl)) ?_; (with_reducible refine (transit_Compare.calls _ _ x14_61 _ _ x15_2 t886 t887 _ ?side1 ?side2 ?side3 ?side4 A88.out).mono ?_); (case side1 => repeat (first | exact (Kd.R_reads' HO_1.out).2.2 | (with_reducible refine Kd.C_alloc ?_ _) | (with_reducible refine Kd.C_drewN ?_ _) | (with_reducible refine Kd.C_drew ?_))); (case side2 => exact (Kd.R_reads' HO_1.out).2.1); (case side3 => repeat (first | exact (Kd.R_reads' HO_2.out).2.2 | (with_reducible refine Kd.C_alloc ?_ _) | (with_reducible refine Kd.C_drewN ?_ _) | (with_reducible refine Kd.C_drew ?_))); (case side4 => exact (Kd.R_reads' HO_2.out).2.1); rintro e w115 ⟨v888, v890, rfl, ho0, ho1, hb⟩; refine ⟨_, rfl, ?_⟩; have n0_ := Aside0.mk (Kd.R_mono (Kd.R_told (Kd.R_told (Kd.R_old HO_1.out hb) (Kd.R_base ho0)) (Kd.R_base ho1)) (fun _ h_ => h_.1)); have n1_ := Aside0.mk (Kd.R_mono (Kd.R_told (Kd.R_told (Kd.R_old HO_2.out hb) (Kd.R_base ho0)) (Kd.R_base ho1)) (fun _ h_ => h_.1)); have n2_ := Aside0.mk (Kd.R_below HO_13.out hb); have n3_ := Aside0.mk (Kd.R_lower (Kd.R_new' (Kd.R_new' ho0 (Kd.R_lt HO_1.out)) (Kd.R_lt HO_2.out)) (below_size HB.out)); have n4_ := Aside0.mk (Kd.R_lower (Kd.R_new' (Kd.R_new' ho1 (Kd.R_lt HO_1.out)) (Kd.R_lt HO_2.out)) (below_size HB.out)); have n5_ := Aside0.mk (below_step HB.out hb); clear HO_1; clear HO_2; clear HO_13; clear HB; have HO_1 := n0_; have HO_2 := n1_; have HO_13 := n2_; have HO889 := n3_; have HO891 := n4_; have HB := n5_; clear n0_ n1_ n2_ n3_ n4_ n5_; (try clear hb); (try clear hb2); (try clear hk); (try clear hi); (try clear ho0); (try clear ho1)) | ((with_reducible refine gate_callee (f := 21) rfl ?_); refine goesL_ (some 91) rfl rfl Tryd.func21 (by kernel_rfl) rfl #[.slice Ao113 x14_61.length co113, .slice Ao114 x15_2.length co114] rfl (by (try simp only [List.map_toArray, List.map_cons, List.map_nil]); first | done | rfl | (simp only [List.length_drop, List.length_take]; rfl)) ?_; (with_reducible refine (customsref33_Compare.calls kj75 _ _ x14_61 _ _ x15_2 t892 t895 _ ?side1 ?side2 ?side3 ?side4 A89.out).mono ?_); (case side1 => repeat (first | exact (Kd.R_reads' HO_1.out).2.2 | (with_reducible refine Kd.C_alloc ?_ _) | (with_reducible refine Kd.C_drewN ?_ _) | (with_reducible refine Kd.C_drew ?_))); (case side2 => exact (Kd.R_reads' HO_1.out).2.1); (case side3 => repeat (first | exact (Kd.R_reads' HO_2.out).2.2 | (with_reducible refine Kd.C_alloc ?_ _) | (with_reducible refine Kd.C_drewN ?_ _) | (with_reducible refine Kd.C_drew ?_))); (case side4 => exact (Kd.R_reads' HO_2.out).2.1); rintro e w116 ⟨v893, v896, rfl, ho0, ho1, hb⟩; refine ⟨_, rfl, ?_⟩; have n0_ := Aside0.mk (Kd.R_below HO_1.out hb); have n1_ := Aside0.mk (Kd.R_below HO_2.out hb); have n2_ := Aside0.mk (Kd.R_below HO_13.out hb); have n3_ := Aside0.mk (Kd.R_below HO889.out hb); have n4_ := Aside0.mk (Kd.R_below HO891.out hb); have n5_ := Aside0.mk (Kd.V_lower (Kd.V_mono (ok' := fun k_ => some k_ ≠ (.slice Ao113 x14_61.length co113 : Value).ownBlock ∧ some k_ ≠ (.slice Ao114 x15_2.length co114 : Value).ownBlock ∧ some k_ ≠ (v872 : Value).ownBlock ∧ some k_ ≠ (v888 : Value).ownBlock ∧ some k_ ≠ (v890 : Value).ownBlock) ho0 (fun k_ hk_ => ⟨(Kd.fresh' (Kd.R_lt HO_1.out) k_ hk_), (Kd.fresh' (Kd.R_lt HO_2.out) k_ hk_), (Kd.fresh' (Kd.R_lt HO_13.out) k_ hk_), (Kd.fresh' (Kd.R_lt HO889.out) k_ hk_), (Kd.fresh' (Kd.R_lt HO891.out) k_ hk_)⟩)) (below_size HB.out)); have n6_ := Aside0.mk (Kd.V_lower (Kd.V_mono (ok' := fun k_ => some k_ ≠ (.slice Ao113 x14_61.length co113 : Value).ownBlock ∧ some k_ ≠ (.slice Ao114 x15_2.length co114 : Value).ownBlock ∧ some k_ ≠ (v872 : Value).ownBlock ∧ some k_ ≠ (v888 : Value).ownBlock ∧ some k_ ≠ (v890 : Value).ownBlock) ho1 (fun k_ hk_ => ⟨(Kd.fresh' (Kd.R_lt HO_1.out) k_ hk_), (Kd.fresh' (Kd.R_lt HO_2.out) k_ hk_), (Kd.fresh' (Kd.R_lt HO_13.out) k_ hk_), (Kd.fresh' (Kd.R_lt HO889.out) k_ hk_), (Kd.fresh' (Kd.R_lt HO891.out) k_ hk_)⟩)) (below_size HB.out)); have n7_ := Aside0.mk (below_step HB.out hb); clear HO_1; clear HO_2; clear HO_13; clear HO889; clear HO891; clear HB; have HO_1 := n0_; have HO_2 := n1_; have HO_13 := n2_; have HO889 := n3_; have HO891 := n4_; have HO894 := n5_; have HO897 := n6_; have HB := n7_; clear n0_ n1_ n2_ n3_ n4_ n5_ n6_ n7_; (try clear hb); (try clear hb2); (try clear hk); (try clear hi); (try clear ho0); (try clear ho1); obtain ⟨Ao117, co117, eo117⟩ := Kd.R_slice HO_13.out; subst eo117) | ((with_reducible refine gate_callee (f := 23) rfl ?_); refine goesL_ (some 97) rfl rfl Tryd.func23 (by kernel_rfl) rfl #[.slice Ao113 x14_61.length co113, .int .i64 (wrap64 (1 + t874)), .slice Ao117 t871.length co117] rfl (by (try simp only [List.map_toArray, List.map_cons, List.map_nil]); first | done | rfl | (simp only [List.length_drop, List.length_take]; rfl)) ?_; (with_reducible refine (transit_Seals.calls _ _ x14_61 (wrap64 (1 + t874)) _ _ t871 t898 _ ?side1 ?side2 ?side3 ?side4 A90.out).mono ?_); (case side1 => repeat (first | exact (Kd.R_reads' HO_1.out).2.2 | (with_reducible refine Kd.C_alloc ?_ _) | (with_reducible refine Kd.C_drewN ?_ _) | (with_reducible refine Kd.C_drew ?_))); (case side2 => exact (Kd.R_reads' HO_1.out).2.1); (case side3 => repeat (first | exact (Kd.R_reads' HO_13.out).2.2 | (with_reducible refine Kd.C_alloc ?_ _) | (with_reducible refine Kd.C_drewN ?_ _) | (with_reducible refine Kd.C_drew ?_))); (case side4 => exact (Kd.R_reads' HO_13.out).2.1); rintro e w118 ⟨v899, rfl, ho0, hb⟩; refine ⟨_, rfl, ?_⟩; have n0_ := Aside0.mk (Kd.R_elder' HO_1.out (Kd.R_base ho0) hb); have n1_ := Aside0.mk (Kd.R_elder' HO_2.out (Kd.R_base ho0) hb); have n2_ := Aside0.mk (Kd.R_below HO_13.out hb); have n3_ := Aside0.mk (Kd.R_elder' HO889.out (Kd.R_base ho0) hb); have n4_ := Aside0.mk (Kd.R_elder' HO891.out (Kd.R_base ho0) hb); have n5_ := Aside0.mk (Kd.V_elder' HO894.out (Kd.R_base ho0) hb); have n6_ := Aside0.mk (Kd.V_elder' HO897.out (Kd.R_base ho0) hb); have n7_ := Aside0.mk (Kd.R_lower (Kd.R_new' (Kd.R_new' (Kd.R_new' (Kd.R_new' ho0 (Kd.R_lt HO_1.out)) (Kd.R_lt HO_2.out)) (Kd.R_lt HO889.out)) (Kd.R_lt HO891.out)) (below_size HB.out)); have n8_ := Aside0.mk (below_step HB.out hb); clear HO_1; clear HO_2; clear HO_13; clear HO889; clear HO891; clear HO894; clear HO897; clear HB; have HO_1 := n0_; have HO_2 := n1_; have HO_13 := n2_; have HO889 := n3_; have HO891 := n4_; have HO894 := n5_; have HO897 := n6_; have HO900 := n7_; have HB := n8_; clear n0_ n1_ n2_ n3_ n4_ n5_ n6_ n7_ n8_; (try clear hb); (try clear hb2); (try clear hk); (try clear hi); (try clear ho0)) | ((with_reducible refine gate_callee (f := 24) rfl ?_); refine goesL_ (some 101) rfl rfl Tryd.func24 (by kernel_rfl) rfl #[.slice Ao113 x14_61.length co113, .int .i64 (wrap64 (1 + t874)), .slice Ao117 t871.length co117] rfl (by (try simp only [List.map_toArray, List.map_cons, List.map_nil]); first | done | rfl | (simp only [List.length_drop, List.length_take]; rfl)) ?_; (with_reducible refine (customsref33_Seals.calls kj75 _ _ x14_61 (wrap64 (1 + t874)) _ _ t871 t901 _ ?side1 ?side2 ?side3 ?side4 A91.out).mono ?_); (case side1 => repeat (first | exact (Kd.R_reads' HO_1.out).2.2 | (with_reducible refine Kd.C_alloc ?_ _) | (with_reducible refine Kd.C_drewN ?_ _) | (with_reducible refine Kd.C_drew ?_))); (case side2 => exact (Kd.R_reads' HO_1.out).2.1); (case side3 => repeat (first | exact (Kd.R_reads' HO_13.out).2.2 | (with_reducible refine Kd.C_alloc ?_ _) | (with_reducible refine Kd.C_drewN ?_ _) | (with_reducible refine Kd.C_drew ?_))); (case side4 => exact (Kd.R_reads' HO_13.out).2.1); rintro e w119 ⟨v902, rfl, ho0, hb⟩; refine ⟨_, rfl, ?_⟩; have n0_ := Aside0.mk (Kd.R_elder' HO_1.out (Kd.R_base ho0) hb); have n1_ := Aside0.mk (Kd.R_elder' HO_2.out (Kd.R_base ho0) hb); have n2_ := Aside0.mk (Kd.R_below HO_13.out hb); have n3_ := Aside0.mk (Kd.R_elder' HO889.out (Kd.R_base ho0) hb); have n4_ := Aside0.mk (Kd.R_elder' HO891.out (Kd.R_base ho0) hb); have n5_ := Aside0.mk (Kd.V_elder' HO894.out (Kd.R_base ho0) hb); have n6_ := Aside0.mk (Kd.V_elder' HO897.out (Kd.R_base ho0) hb); have n7_ := Aside0.mk (Kd.R_elder' HO900.out (Kd.R_base ho0) hb); have n8_ := Aside0.mk (Kd.R_lower (Kd.R_new' (Kd.R_new' (Kd.R_new' (Kd.R_new' (Kd.R_new' ho0 (Kd.R_lt HO_1.out)) (Kd.R_lt HO_2.out)) (Kd.R_lt HO889.out)) (Kd.R_lt HO891.out)) (Kd.R_lt HO900.out)) (below_size HB.out)); have n9_ := Aside0.mk (below_step HB.out hb); clear HO_1; clear HO_2; clear HO_13; clear HO889; clear HO891; clear HO894; clear HO897; clear HO900; clear HB; have HO_1 := n0_; have HO_2 := n1_; have HO_13 := n2_; have HO889 := n3_; have HO891 := n4_; have HO894 := n5_; have HO897 := n6_; have HO900 := n7_; have HO903 := n8_; have HB := n9_; clear n0_ n1_ n2_ n3_ n4_ n5_ n6_ n7_ n8_ n9_; (try clear hb); (try clear hb2); (try clear hk); (try clear hi); (try clear ho0); obtain ⟨Ao120, co120, eo120⟩ := Kd.R_slice HO900.out; subst eo120; obtain ⟨Ao121, co121, eo121⟩ := Kd.R_slice HO903.out; subst eo121) | ((with_reducible refine gate_callee (f := 22) rfl ?_); refine goesL_ (some 102) rfl rfl Tryd.func22 (by kernel_rfl) rfl #[.slice Ao120 t898.length co120, .slice Ao121 t901.length co121] rfl (by (try simp only [List.map_toArray, List.map_cons, List.map_nil]); first | done | rfl | (simp only [List.length_drop, List.length_take]; rfl)) ?_; (with_reducible refine (customsref33_SameInts.calls kj75 _ _ t898 _ _ t901 true _ ?side1 ?side2 ?side3 ?side4 A92.out).mono ?_); (case side1 => repeat (first | exact (Kd.R_reads' HO900.out).2.2 | (with_reducible refine Kd.C_alloc ?_ _) | (with_reducible refine Kd.C_drewN ?_ _) | (with_reducible refine Kd.C_drew ?_))); (case side2 => exact (Kd.R_reads' HO900.out).2.1); (case side3 => repeat (first | exact (Kd.R_reads' HO903.out).2.2 | (with_reducible refine Kd.C_alloc ?_ _) | (with_reducible refine Kd.C_drewN ?_ _) | (with_reducible refine Kd.C_drew ?_))); (case side4 => exact (Kd.R_reads' HO903.out).2.1); rintro e w' ⟨rfl, ⟨nd, rfl⟩⟩; refine ⟨_, rfl, ?_⟩; obtain ⟨Ao122, co122, eo122⟩ := Kd.R_slice HO889.out; subst eo122; obtain ⟨Ao123, co123, eo123⟩ := Kd.V_slice HO894.out; subst eo123) | (go_at_call 22; (with_reducible refine (customsref33_SameInts.calls kj75 _ _ t886 _ _ t892 true _ ?side1 ?side2 ?side3 ?side4 A94.out).mono ?_); (case side1 => repeat (first | exact (Kd.R_reads' HO889.out).2.2 | (with_reducible refine Kd.C_alloc ?_ _) | (with_reducible refine Kd.C_drewN ?_ _) | (with_reducible refine Kd.C_drew ?_))); (case side2 => exact (Kd.R_reads' HO889.out).2.1); (case side3 => repeat (first | exact (Kd.V_reads' HO894.out).2.2 | (with_reducible refine Kd.C_alloc ?_ _) | (with_reducible refine Kd.C_drewN ?_ _) | (with_reducible refine Kd.C_drew ?_))); (case side4 => exact (Kd.V_reads' HO894.out).2.1); rintro e w' ⟨rfl, ⟨nd, rfl⟩⟩; obtain ⟨Ao124, co124, eo124⟩ := Kd.R_slice HO891.out; subst eo124; obtain ⟨Ao125, co125, eo125⟩ := Kd.V_slice HO897.out; subst eo125) | (go_at_call 22; (with_reducible refine (customsref33_SameInts.calls kj75 _ _ t887 _ _ t895 false _ ?side1 ?side2 ?side3 ?side4 A96.out).mono ?_); (case side1 => repeat (first | exact (Kd.R_reads' HO891.out).2.2 | (with_reducible refine Kd.C_alloc ?_ _) | (with_reducible refine Kd.C_drewN ?_ _) | (with_reducible refine Kd.C_drew ?_))); (case side2 => exact (Kd.R_reads' HO891.out).2.1); (case side3 => repeat (first | exact (Kd.V_reads' HO897.out).2.2 | (with_reducible refine Kd.C_alloc ?_ _) | (with_reducible refine Kd.C_drewN ?_ _) | (with_reducible refine Kd.C_drew ?_))); (case side4 => exact (Kd.V_reads' HO897.out).2.1); rintro e w' ⟨rfl, ⟨nd, rfl⟩⟩))
              go_ret
              exact ⟨by first | rfl | (simp [errW_none, errW_some] <;> rfl) | (simp [*, errW_none, errW_some] <;> rfl), by repeat (first | (with_reducible first | exact HB.out | apply below_alloc | apply pw_below_drewN | apply below_drew1) | exact HB.out)⟩
            ·
             replace c95 := Bool.eq_false_iff.mpr c95
             subst c95
             have H1 : (some false) = some r := by rw [if_neg (show ¬ (false = true) by decide)] at H; exact H
             clear H
             have H := H1
             clear H1
             obtain rfl := Option.some.inj H
             obtain ⟨Ao126, co126, eo126⟩ := Kd.R_slice HO_1.out
             subst eo126
             obtain ⟨Ao127, co127, eo127⟩ := Kd.R_slice HO_2.out
             subst eo127
             go_wp2_with (first | ((with_reducible refine gate_callee (f := 20) rfl ?_); refine goesL_ (some 85) rfl rfl Tryd.func20 (by kernel_rfl) rfl #[.slice Ao126 x14_61.length co126, .slice Ao127 x15_2.length co127] rfl (by (try simp only [List.map_toArray, List.map_cons, List.map_nil]); first | done | rfl | (simp only [List.length_drop, List.length_take]; rfl)) ?_; (with_reducible refine (transit_Compare.calls _ _ x14_61 _ _ x15_2 t886 t887 _ ?side1 ?side2 ?side3 ?side4 A88.out).mono ?_); (case side1 => repeat (first | exact (Kd.R_reads' HO_1.out).2.2 | (with_reducible refine Kd.C_alloc ?_ _) | (with_reducible refine Kd.C_drewN ?_ _) | (with_reducible refine Kd.C_drew ?_))); (case side2 => exact (Kd.R_reads' HO_1.out).2.1); (case side3 => repeat (first | exact (Kd.R_reads' HO_2.out).2.2 | (with_reducible refine Kd.C_alloc ?_ _) | (with_reducible refine Kd.C_drewN ?_ _) | (with_reducible refine Kd.C_drew ?_))); (case side4 => exact (Kd.R_reads' HO_2.out).2.1); rintro e w128 ⟨v888, v890, rfl, ho0, ho1, hb⟩; refine ⟨_, rfl, ?_⟩; have n0_ := Aside0.mk (Kd.R_mono (Kd.R_told (Kd.R_told (Kd.R_old HO_1.out hb) (Kd.R_base ho0)) (Kd.R_base ho1)) (fun _ h_ => h_.1)); have n1_ := Aside0.mk (Kd.R_mono (Kd.R_told (Kd.R_told (Kd.R_old HO_2.out hb) (Kd.R_base ho0)) (Kd.R_base ho1)) (fun _ h_ => h_.1)); have n2_ := Aside0.mk (Kd.R_below HO_13.out hb); have n3_ := Aside0.mk (Kd.R_lower (Kd.R_new' (Kd.R_new' ho0 (Kd.R_lt HO_1.out)) (Kd.R_lt HO_2.out)) (below_size HB.out)); have n4_ := Aside0.mk (Kd.R_lower (Kd.R_new' (Kd.R_new' ho1 (Kd.R_lt HO_1.out)) (Kd.R_lt HO_2.out)) (below_size HB.out)); have n5_ := Aside0.mk (below_step HB.out hb); clear HO_1; clear HO_2; clear HO_13; clear HB; have HO_1 := n0_; have HO_2 := n1_; have HO_13 := n2_; have HO889 := n3_; have HO891 := n4_; have HB := n5_; clear n0_ n1_ n2_ n3_ n4_ n5_; (try clear hb); (try clear hb2); (try clear hk); (try clear hi); (try clear ho0); (try clear ho1)) | ((with_reducible refine gate_callee (f := 21) rfl ?_); refine goesL_ (some 91) rfl rfl Tryd.func21 (by kernel_rfl) rfl #[.slice Ao126 x14_61.length co126, .slice Ao127 x15_2.length co127] rfl (by (try simp only [List.map_toArray, List.map_cons, List.map_nil]); first | done | rfl | (simp only [List.length_drop, List.length_take]; rfl)) ?_; (with_reducible refine (customsref33_Compare.calls kj75 _ _ x14_61 _ _ x15_2 t892 t895 _ ?side1 ?side2 ?side3 ?side4 A89.out).mono ?_); (case side1 => repeat (first | exact (Kd.R_reads' HO_1.out).2.2 | (with_reducible refine Kd.C_alloc ?_ _) | (with_reducible refine Kd.C_drewN ?_ _) | (with_reducible refine Kd.C_drew ?_))); (case side2 => exact (Kd.R_reads' HO_1.out).2.1); (case side3 => repeat (first | exact (Kd.R_reads' HO_2.out).2.2 | (with_reducible refine Kd.C_alloc ?_ _) | (with_reducible refine Kd.C_drewN ?_ _) | (with_reducible refine Kd.C_drew ?_))); (case side4 => exact (Kd.R_reads' HO_2.out).2.1); rintro e w129 ⟨v893, v896, rfl, ho0, ho1, hb⟩; refine ⟨_, rfl, ?_⟩; have n0_ := Aside0.mk (Kd.R_below HO_1.out hb); have n1_ := Aside0.mk (Kd.R_below HO_2.out hb); have n2_ := Aside0.mk (Kd.R_below HO_13.out hb); have n3_ := Aside0.mk (Kd.R_below HO889.out hb); have n4_ := Aside0.mk (Kd.R_below HO891.out hb); have n5_ := Aside0.mk (Kd.V_lower (Kd.V_mono (ok' := fun k_ => some k_ ≠ (.slice Ao126 x14_61.length co126 : Value).ownBlock ∧ some k_ ≠ (.slice Ao127 x15_2.length co127 : Value).ownBlock ∧ some k_ ≠ (v872 : Value).ownBlock ∧ some k_ ≠ (v888 : Value).ownBlock ∧ some k_ ≠ (v890 : Value).ownBlock) ho0 (fun k_ hk_ => ⟨(Kd.fresh' (Kd.R_lt HO_1.out) k_ hk_), (Kd.fresh' (Kd.R_lt HO_2.out) k_ hk_), (Kd.fresh' (Kd.R_lt HO_13.out) k_ hk_), (Kd.fresh' (Kd.R_lt HO889.out) k_ hk_), (Kd.fresh' (Kd.R_lt HO891.out) k_ hk_)⟩)) (below_size HB.out)); have n6_ := Aside0.mk (Kd.V_lower (Kd.V_mono (ok' := fun k_ => some k_ ≠ (.slice Ao126 x14_61.length co126 : Value).ownBlock ∧ some k_ ≠ (.slice Ao127 x15_2.length co127 : Value).ownBlock ∧ some k_ ≠ (v872 : Value).ownBlock ∧ some k_ ≠ (v888 : Value).ownBlock ∧ some k_ ≠ (v890 : Value).ownBlock) ho1 (fun k_ hk_ => ⟨(Kd.fresh' (Kd.R_lt HO_1.out) k_ hk_), (Kd.fresh' (Kd.R_lt HO_2.out) k_ hk_), (Kd.fresh' (Kd.R_lt HO_13.out) k_ hk_), (Kd.fresh' (Kd.R_lt HO889.out) k_ hk_), (Kd.fresh' (Kd.R_lt HO891.out) k_ hk_)⟩)) (below_size HB.out)); have n7_ := Aside0.mk (below_step HB.out hb); clear HO_1; clear HO_2; clear HO_13; clear HO889; clear HO891; clear HB; have HO_1 := n0_; have HO_2 := n1_; have HO_13 := n2_; have HO889 := n3_; have HO891 := n4_; have HO894 := n5_; have HO897 := n6_; have HB := n7_; clear n0_ n1_ n2_ n3_ n4_ n5_ n6_ n7_; (try clear hb); (try clear hb2); (try clear hk); (try clear hi); (try clear ho0); (try clear ho1); obtain ⟨Ao130, co130, eo130⟩ := Kd.R_slice HO_13.out; subst eo130) | ((with_reducible refine gate_callee (f := 23) rfl ?_); refine goesL_ (some 97) rfl rfl Tryd.func23 (by kernel_rfl) rfl #[.slice Ao126 x14_61.length co126, .int .i64 (wrap64 (1 + t874)), .slice Ao130 t871.length co130] rfl (by (try simp only [List.map_toArray, List.map_cons, List.map_nil]); first | done | rfl | (simp only [List.length_drop, List.length_take]; rfl)) ?_; (with_reducible refine (transit_Seals.calls _ _ x14_61 (wrap64 (1 + t874)) _ _ t871 t898 _ ?side1 ?side2 ?side3 ?side4 A90.out).mono ?_); (case side1 => repeat (first | exact (Kd.R_reads' HO_1.out).2.2 | (with_reducible refine Kd.C_alloc ?_ _) | (with_reducible refine Kd.C_drewN ?_ _) | (with_reducible refine Kd.C_drew ?_))); (case side2 => exact (Kd.R_reads' HO_1.out).2.1); (case side3 => repeat (first | exact (Kd.R_reads' HO_13.out).2.2 | (with_reducible refine Kd.C_alloc ?_ _) | (with_reducible refine Kd.C_drewN ?_ _) | (with_reducible refine Kd.C_drew ?_))); (case side4 => exact (Kd.R_reads' HO_13.out).2.1); rintro e w131 ⟨v899, rfl, ho0, hb⟩; refine ⟨_, rfl, ?_⟩; have n0_ := Aside0.mk (Kd.R_elder' HO_1.out (Kd.R_base ho0) hb); have n1_ := Aside0.mk (Kd.R_elder' HO_2.out (Kd.R_base ho0) hb); have n2_ := Aside0.mk (Kd.R_below HO_13.out hb); have n3_ := Aside0.mk (Kd.R_elder' HO889.out (Kd.R_base ho0) hb); have n4_ := Aside0.mk (Kd.R_elder' HO891.out (Kd.R_base ho0) hb); have n5_ := Aside0.mk (Kd.V_elder' HO894.out (Kd.R_base ho0) hb); have n6_ := Aside0.mk (Kd.V_elder' HO897.out (Kd.R_base ho0) hb); have n7_ := Aside0.mk (Kd.R_lower (Kd.R_new' (Kd.R_new' (Kd.R_new' (Kd.R_new' ho0 (Kd.R_lt HO_1.out)) (Kd.R_lt HO_2.out)) (Kd.R_lt HO889.out)) (Kd.R_lt HO891.out)) (below_size HB.out)); have n8_ := Aside0.mk (below_step HB.out hb); clear HO_1; clear HO_2; clear HO_13; clear HO889; clear HO891; clear HO894; clear HO897; clear HB; have HO_1 := n0_; have HO_2 := n1_; have HO_13 := n2_; have HO889 := n3_; have HO891 := n4_; have HO894 := n5_; have HO897 := n6_; have HO900 := n7_; have HB := n8_; clear n0_ n1_ n2_ n3_ n4_ n5_ n6_ n7_ n8_; (try clear hb); (try clear hb2); (try clear hk); (try clear hi); (try clear ho0)) | ((with_reducible refine gate_callee (f := 24) rfl ?_); refine goesL_ (some 101) rfl rfl Tryd.func24 (by kernel_rfl) rfl #[.slice Ao126 x14_61.length co126, .int .i64 (wrap64 (1 + t874)), .slice Ao130 t871.length co130] rfl (by (try simp only [List.map_toArray, List.map_cons, List.map_nil]); first | done | rfl | (simp only [List.length_drop, List.length_take]; rfl)) ?_; (with_reducible refine (customsref33_Seals.calls kj75 _ _ x14_61 (wrap64 (1 + t874)) _ _ t871 t901 _ ?side1 ?side2 ?side3 ?side4 A91.out).mono ?_); (case side1 => repeat (first | exact (Kd.R_reads' HO_1.out).2.2 | (with_reducible refine Kd.C_alloc ?_ _) | (with_reducible refine Kd.C_drewN ?_ _) | (with_reducible refine Kd.C_drew ?_))); (case side2 => exact (Kd.R_reads' HO_1.out).2.1); (case side3 => repeat (first | exact (Kd.R_reads' HO_13.out).2.2 | (with_reducible refine Kd.C_alloc ?_ _) | (with_reducible refine Kd.C_drewN ?_ _) | (with_reducible refine Kd.C_drew ?_))); (case side4 => exact (Kd.R_reads' HO_13.out).2.1); rintro e w132 ⟨v902, rfl, ho0, hb⟩; refine ⟨_, rfl, ?_⟩; have n0_ := Aside0.mk (Kd.R_elder' HO_1.out (Kd.R_base ho0) hb); have n1_ := Aside0.mk (Kd.R_elder' HO_2.out (Kd.R_base ho0) hb); have n2_ := Aside0.mk (Kd.R_below HO_13.out hb); have n3_ := Aside0.mk (Kd.R_elder' HO889.out (Kd.R_base ho0) hb); have n4_ := Aside0.mk (Kd.R_elder' HO891.out (Kd.R_base ho0) hb); have n5_ := Aside0.mk (Kd.V_elder' HO894.out (Kd.R_base ho0) hb); have n6_ := Aside0.mk (Kd.V_elder' HO897.out (Kd.R_base ho0) hb); have n7_ := Aside0.mk (Kd.R_elder' HO900.out (Kd.R_base ho0) hb); have n8_ := Aside0.mk (Kd.R_lower (Kd.R_new' (Kd.R_new' (Kd.R_new' (Kd.R_new' (Kd.R_new' ho0 (Kd.R_lt HO_1.out)) (Kd.R_lt HO_2.out)) (Kd.R_lt HO889.out)) (Kd.R_lt HO891.out)) (Kd.R_lt HO900.out)) (below_size HB.out)); have n9_ := Aside0.mk (below_step HB.out hb); clear HO_1; clear HO_2; clear HO_13; clear HO889; clear HO891; clear HO894; clear HO897; clear HO900; clear HB; have HO_1 := n0_; have HO_2 := n1_; have HO_13 := n2_; have HO889 := n3_; have HO891 := n4_; have HO894 := n5_; have HO897 := n6_; have HO900 := n7_; have HO903 := n8_; have HB := n9_; clear n0_ n1_ n2_ n3_ n4_ n5_ n6_ n7_ n8_ n9_; (try clear hb); (try clear hb2); (try clear hk); (try clear hi); (try clear ho0); obtain ⟨Ao133, co133, eo133⟩ := Kd.R_slice HO900.out; subst eo133; obtain ⟨Ao134, co134, eo134⟩ := Kd.R_slice HO903.out; subst eo134) | ((with_reducible refine gate_callee (f := 22) rfl ?_); refine goesL_ (some 102) rfl rfl Tryd.func22 (by kernel_rfl) rfl #[.slice Ao133 t898.length co133, .slice Ao134 t901.length co134] rfl (by (try simp only [List.map_toArray, List.map_cons, List.map_nil]); first | done | rfl | (simp only [List.length_drop, List.length_take]; rfl)) ?_; (with_reducible refine (customsref33_SameInts.calls kj75 _ _ t898 _ _ t901 true _ ?side1 ?side2 ?side3 ?side4 A92.out).mono ?_); (case side1 => repeat (first | exact (Kd.R_reads' HO900.out).2.2 | (with_reducible refine Kd.C_alloc ?_ _) | (with_reducible refine Kd.C_drewN ?_ _) | (with_reducible refine Kd.C_drew ?_))); (case side2 => exact (Kd.R_reads' HO900.out).2.1); (case side3 => repeat (first | exact (Kd.R_reads' HO903.out).2.2 | (with_reducible refine Kd.C_alloc ?_ _) | (with_reducible refine Kd.C_drewN ?_ _) | (with_reducible refine Kd.C_drew ?_))); (case side4 => exact (Kd.R_reads' HO903.out).2.1); rintro e w' ⟨rfl, ⟨nd, rfl⟩⟩; refine ⟨_, rfl, ?_⟩; obtain ⟨Ao135, co135, eo135⟩ := Kd.R_slice HO889.out; subst eo135; obtain ⟨Ao136, co136, eo136⟩ := Kd.V_slice HO894.out; subst eo136) | (go_at_call 22; (with_reducible refine (customsref33_SameInts.calls kj75 _ _ t886 _ _ t892 false _ ?side1 ?side2 ?side3 ?side4 A94.out).mono ?_); (case side1 => repeat (first | exact (Kd.R_reads' HO889.out).2.2 | (with_reducible refine Kd.C_alloc ?_ _) | (with_reducible refine Kd.C_drewN ?_ _) | (with_reducible refine Kd.C_drew ?_))); (case side2 => exact (Kd.R_reads' HO889.out).2.1); (case side3 => repeat (first | exact (Kd.V_reads' HO894.out).2.2 | (with_reducible refine Kd.C_alloc ?_ _) | (with_reducible refine Kd.C_drewN ?_ _) | (with_reducible refine Kd.C_drew ?_))); (case side4 => exact (Kd.V_reads' HO894.out).2.1); rintro e w' ⟨rfl, ⟨nd, rfl⟩⟩))
             go_ret
             exact ⟨by first | rfl | (simp [errW_none, errW_some] <;> rfl) | (simp [*, errW_none, errW_some] <;> rfl), by repeat (first | (with_reducible first | exact HB.out | apply below_alloc | apply pw_below_drewN | apply below_drew1) | exact HB.out)⟩
           ·
            replace c93 := Bool.eq_false_iff.mpr c93
            subst c93
            have H1 : (some false) = some r := by rw [if_neg (show ¬ (false = true) by decide)] at H; exact H
            clear H
            have H := H1
            clear H1
            obtain rfl := Option.some.inj H
            obtain ⟨Ao137, co137, eo137⟩ := Kd.R_slice HO_1.out
            subst eo137
            obtain ⟨Ao138, co138, eo138⟩ := Kd.R_slice HO_2.out
            subst eo138
            go_wp2_with (first | ((with_reducible refine gate_callee (f := 20) rfl ?_); refine goesL_ (some 85) rfl rfl Tryd.func20 (by kernel_rfl) rfl #[.slice Ao137 x14_61.length co137, .slice Ao138 x15_2.length co138] rfl (by (try simp only [List.map_toArray, List.map_cons, List.map_nil]); first | done | rfl | (simp only [List.length_drop, List.length_take]; rfl)) ?_; (with_reducible refine (transit_Compare.calls _ _ x14_61 _ _ x15_2 t886 t887 _ ?side1 ?side2 ?side3 ?side4 A88.out).mono ?_); (case side1 => repeat (first | exact (Kd.R_reads' HO_1.out).2.2 | (with_reducible refine Kd.C_alloc ?_ _) | (with_reducible refine Kd.C_drewN ?_ _) | (with_reducible refine Kd.C_drew ?_))); (case side2 => exact (Kd.R_reads' HO_1.out).2.1); (case side3 => repeat (first | exact (Kd.R_reads' HO_2.out).2.2 | (with_reducible refine Kd.C_alloc ?_ _) | (with_reducible refine Kd.C_drewN ?_ _) | (with_reducible refine Kd.C_drew ?_))); (case side4 => exact (Kd.R_reads' HO_2.out).2.1); rintro e w139 ⟨v888, v890, rfl, ho0, ho1, hb⟩; refine ⟨_, rfl, ?_⟩; have n0_ := Aside0.mk (Kd.R_mono (Kd.R_told (Kd.R_told (Kd.R_old HO_1.out hb) (Kd.R_base ho0)) (Kd.R_base ho1)) (fun _ h_ => h_.1)); have n1_ := Aside0.mk (Kd.R_mono (Kd.R_told (Kd.R_told (Kd.R_old HO_2.out hb) (Kd.R_base ho0)) (Kd.R_base ho1)) (fun _ h_ => h_.1)); have n2_ := Aside0.mk (Kd.R_below HO_13.out hb); have n3_ := Aside0.mk (Kd.R_lower (Kd.R_new' (Kd.R_new' ho0 (Kd.R_lt HO_1.out)) (Kd.R_lt HO_2.out)) (below_size HB.out)); have n4_ := Aside0.mk (Kd.R_lower (Kd.R_new' (Kd.R_new' ho1 (Kd.R_lt HO_1.out)) (Kd.R_lt HO_2.out)) (below_size HB.out)); have n5_ := Aside0.mk (below_step HB.out hb); clear HO_1; clear HO_2; clear HO_13; clear HB; have HO_1 := n0_; have HO_2 := n1_; have HO_13 := n2_; have HO889 := n3_; have HO891 := n4_; have HB := n5_; clear n0_ n1_ n2_ n3_ n4_ n5_; (try clear hb); (try clear hb2); (try clear hk); (try clear hi); (try clear ho0); (try clear ho1)) | ((with_reducible refine gate_callee (f := 21) rfl ?_); refine goesL_ (some 91) rfl rfl Tryd.func21 (by kernel_rfl) rfl #[.slice Ao137 x14_61.length co137, .slice Ao138 x15_2.length co138] rfl (by (try simp only [List.map_toArray, List.map_cons, List.map_nil]); first | done | rfl | (simp only [List.length_drop, List.length_take]; rfl)) ?_; (with_reducible refine (customsref33_Compare.calls kj75 _ _ x14_61 _ _ x15_2 t892 t895 _ ?side1 ?side2 ?side3 ?side4 A89.out).mono ?_); (case side1 => repeat (first | exact (Kd.R_reads' HO_1.out).2.2 | (with_reducible refine Kd.C_alloc ?_ _) | (with_reducible refine Kd.C_drewN ?_ _) | (with_reducible refine Kd.C_drew ?_))); (case side2 => exact (Kd.R_reads' HO_1.out).2.1); (case side3 => repeat (first | exact (Kd.R_reads' HO_2.out).2.2 | (with_reducible refine Kd.C_alloc ?_ _) | (with_reducible refine Kd.C_drewN ?_ _) | (with_reducible refine Kd.C_drew ?_))); (case side4 => exact (Kd.R_reads' HO_2.out).2.1); rintro e w140 ⟨v893, v896, rfl, ho0, ho1, hb⟩; refine ⟨_, rfl, ?_⟩; have n0_ := Aside0.mk (Kd.R_below HO_1.out hb); have n1_ := Aside0.mk (Kd.R_below HO_2.out hb); have n2_ := Aside0.mk (Kd.R_below HO_13.out hb); have n3_ := Aside0.mk (Kd.R_below HO889.out hb); have n4_ := Aside0.mk (Kd.R_below HO891.out hb); have n5_ := Aside0.mk (Kd.V_lower (Kd.V_mono (ok' := fun k_ => some k_ ≠ (.slice Ao137 x14_61.length co137 : Value).ownBlock ∧ some k_ ≠ (.slice Ao138 x15_2.length co138 : Value).ownBlock ∧ some k_ ≠ (v872 : Value).ownBlock ∧ some k_ ≠ (v888 : Value).ownBlock ∧ some k_ ≠ (v890 : Value).ownBlock) ho0 (fun k_ hk_ => ⟨(Kd.fresh' (Kd.R_lt HO_1.out) k_ hk_), (Kd.fresh' (Kd.R_lt HO_2.out) k_ hk_), (Kd.fresh' (Kd.R_lt HO_13.out) k_ hk_), (Kd.fresh' (Kd.R_lt HO889.out) k_ hk_), (Kd.fresh' (Kd.R_lt HO891.out) k_ hk_)⟩)) (below_size HB.out)); have n6_ := Aside0.mk (Kd.V_lower (Kd.V_mono (ok' := fun k_ => some k_ ≠ (.slice Ao137 x14_61.length co137 : Value).ownBlock ∧ some k_ ≠ (.slice Ao138 x15_2.length co138 : Value).ownBlock ∧ some k_ ≠ (v872 : Value).ownBlock ∧ some k_ ≠ (v888 : Value).ownBlock ∧ some k_ ≠ (v890 : Value).ownBlock) ho1 (fun k_ hk_ => ⟨(Kd.fresh' (Kd.R_lt HO_1.out) k_ hk_), (Kd.fresh' (Kd.R_lt HO_2.out) k_ hk_), (Kd.fresh' (Kd.R_lt HO_13.out) k_ hk_), (Kd.fresh' (Kd.R_lt HO889.out) k_ hk_), (Kd.fresh' (Kd.R_lt HO891.out) k_ hk_)⟩)) (below_size HB.out)); have n7_ := Aside0.mk (below_step HB.out hb); clear HO_1; clear HO_2; clear HO_13; clear HO889; clear HO891; clear HB; have HO_1 := n0_; have HO_2 := n1_; have HO_13 := n2_; have HO889 := n3_; have HO891 := n4_; have HO894 := n5_; have HO897 := n6_; have HB := n7_; clear n0_ n1_ n2_ n3_ n4_ n5_ n6_ n7_; (try clear hb); (try clear hb2); (try clear hk); (try clear hi); (try clear ho0); (try clear ho1); obtain ⟨Ao141, co141, eo141⟩ := Kd.R_slice HO_13.out; subst eo141) | ((with_reducible refine gate_callee (f := 23) rfl ?_); refine goesL_ (some 97) rfl rfl Tryd.func23 (by kernel_rfl) rfl #[.slice Ao137 x14_61.length co137, .int .i64 (wrap64 (1 + t874)), .slice Ao141 t871.length co141] rfl (by (try simp only [List.map_toArray, List.map_cons, List.map_nil]); first | done | rfl | (simp only [List.length_drop, List.length_take]; rfl)) ?_; (with_reducible refine (transit_Seals.calls _ _ x14_61 (wrap64 (1 + t874)) _ _ t871 t898 _ ?side1 ?side2 ?side3 ?side4 A90.out).mono ?_); (case side1 => repeat (first | exact (Kd.R_reads' HO_1.out).2.2 | (with_reducible refine Kd.C_alloc ?_ _) | (with_reducible refine Kd.C_drewN ?_ _) | (with_reducible refine Kd.C_drew ?_))); (case side2 => exact (Kd.R_reads' HO_1.out).2.1); (case side3 => repeat (first | exact (Kd.R_reads' HO_13.out).2.2 | (with_reducible refine Kd.C_alloc ?_ _) | (with_reducible refine Kd.C_drewN ?_ _) | (with_reducible refine Kd.C_drew ?_))); (case side4 => exact (Kd.R_reads' HO_13.out).2.1); rintro e w142 ⟨v899, rfl, ho0, hb⟩; refine ⟨_, rfl, ?_⟩; have n0_ := Aside0.mk (Kd.R_elder' HO_1.out (Kd.R_base ho0) hb); have n1_ := Aside0.mk (Kd.R_elder' HO_2.out (Kd.R_base ho0) hb); have n2_ := Aside0.mk (Kd.R_below HO_13.out hb); have n3_ := Aside0.mk (Kd.R_elder' HO889.out (Kd.R_base ho0) hb); have n4_ := Aside0.mk (Kd.R_elder' HO891.out (Kd.R_base ho0) hb); have n5_ := Aside0.mk (Kd.V_elder' HO894.out (Kd.R_base ho0) hb); have n6_ := Aside0.mk (Kd.V_elder' HO897.out (Kd.R_base ho0) hb); have n7_ := Aside0.mk (Kd.R_lower (Kd.R_new' (Kd.R_new' (Kd.R_new' (Kd.R_new' ho0 (Kd.R_lt HO_1.out)) (Kd.R_lt HO_2.out)) (Kd.R_lt HO889.out)) (Kd.R_lt HO891.out)) (below_size HB.out)); have n8_ := Aside0.mk (below_step HB.out hb); clear HO_1; clear HO_2; clear HO_13; clear HO889; clear HO891; clear HO894; clear HO897; clear HB; have HO_1 := n0_; have HO_2 := n1_; have HO_13 := n2_; have HO889 := n3_; have HO891 := n4_; have HO894 := n5_; have HO897 := n6_; have HO900 := n7_; have HB := n8_; clear n0_ n1_ n2_ n3_ n4_ n5_ n6_ n7_ n8_; (try clear hb); (try clear hb2); (try clear hk); (try clear hi); (try clear ho0)) | ((with_reducible refine gate_callee (f := 24) rfl ?_); refine goesL_ (some 101) rfl rfl Tryd.func24 (by kernel_rfl) rfl #[.slice Ao137 x14_61.length co137, .int .i64 (wrap64 (1 + t874)), .slice Ao141 t871.length co141] rfl (by (try simp only [List.map_toArray, List.map_cons, List.map_nil]); first | done | rfl | (simp only [List.length_drop, List.length_take]; rfl)) ?_; (with_reducible refine (customsref33_Seals.calls kj75 _ _ x14_61 (wrap64 (1 + t874)) _ _ t871 t901 _ ?side1 ?side2 ?side3 ?side4 A91.out).mono ?_); (case side1 => repeat (first | exact (Kd.R_reads' HO_1.out).2.2 | (with_reducible refine Kd.C_alloc ?_ _) | (with_reducible refine Kd.C_drewN ?_ _) | (with_reducible refine Kd.C_drew ?_))); (case side2 => exact (Kd.R_reads' HO_1.out).2.1); (case side3 => repeat (first | exact (Kd.R_reads' HO_13.out).2.2 | (with_reducible refine Kd.C_alloc ?_ _) | (with_reducible refine Kd.C_drewN ?_ _) | (with_reducible refine Kd.C_drew ?_))); (case side4 => exact (Kd.R_reads' HO_13.out).2.1); rintro e w143 ⟨v902, rfl, ho0, hb⟩; refine ⟨_, rfl, ?_⟩; have n0_ := Aside0.mk (Kd.R_elder' HO_1.out (Kd.R_base ho0) hb); have n1_ := Aside0.mk (Kd.R_elder' HO_2.out (Kd.R_base ho0) hb); have n2_ := Aside0.mk (Kd.R_below HO_13.out hb); have n3_ := Aside0.mk (Kd.R_elder' HO889.out (Kd.R_base ho0) hb); have n4_ := Aside0.mk (Kd.R_elder' HO891.out (Kd.R_base ho0) hb); have n5_ := Aside0.mk (Kd.V_elder' HO894.out (Kd.R_base ho0) hb); have n6_ := Aside0.mk (Kd.V_elder' HO897.out (Kd.R_base ho0) hb); have n7_ := Aside0.mk (Kd.R_elder' HO900.out (Kd.R_base ho0) hb); have n8_ := Aside0.mk (Kd.R_lower (Kd.R_new' (Kd.R_new' (Kd.R_new' (Kd.R_new' (Kd.R_new' ho0 (Kd.R_lt HO_1.out)) (Kd.R_lt HO_2.out)) (Kd.R_lt HO889.out)) (Kd.R_lt HO891.out)) (Kd.R_lt HO900.out)) (below_size HB.out)); have n9_ := Aside0.mk (below_step HB.out hb); clear HO_1; clear HO_2; clear HO_13; clear HO889; clear HO891; clear HO894; clear HO897; clear HO900; clear HB; have HO_1 := n0_; have HO_2 := n1_; have HO_13 := n2_; have HO889 := n3_; have HO891 := n4_; have HO894 := n5_; have HO897 := n6_; have HO900 := n7_; have HO903 := n8_; have HB := n9_; clear n0_ n1_ n2_ n3_ n4_ n5_ n6_ n7_ n8_ n9_; (try clear hb); (try clear hb2); (try clear hk); (try clear hi); (try clear ho0); obtain ⟨Ao144, co144, eo144⟩ := Kd.R_slice HO900.out; subst eo144; obtain ⟨Ao145, co145, eo145⟩ := Kd.R_slice HO903.out; subst eo145) | ((with_reducible refine gate_callee (f := 22) rfl ?_); refine goesL_ (some 102) rfl rfl Tryd.func22 (by kernel_rfl) rfl #[.slice Ao144 t898.length co144, .slice Ao145 t901.length co145] rfl (by (try simp only [List.map_toArray, List.map_cons, List.map_nil]); first | done | rfl | (simp only [List.length_drop, List.length_take]; rfl)) ?_; (with_reducible refine (customsref33_SameInts.calls kj75 _ _ t898 _ _ t901 false _ ?side1 ?side2 ?side3 ?side4 A92.out).mono ?_); (case side1 => repeat (first | exact (Kd.R_reads' HO900.out).2.2 | (with_reducible refine Kd.C_alloc ?_ _) | (with_reducible refine Kd.C_drewN ?_ _) | (with_reducible refine Kd.C_drew ?_))); (case side2 => exact (Kd.R_reads' HO900.out).2.1); (case side3 => repeat (first | exact (Kd.R_reads' HO903.out).2.2 | (with_reducible refine Kd.C_alloc ?_ _) | (with_reducible refine Kd.C_drewN ?_ _) | (with_reducible refine Kd.C_drew ?_))); (case side4 => exact (Kd.R_reads' HO903.out).2.1); rintro e w' ⟨rfl, ⟨nd, rfl⟩⟩; refine ⟨_, rfl, ?_⟩))
            go_ret
            exact ⟨by first | rfl | (simp [errW_none, errW_some] <;> rfl) | (simp [*, errW_none, errW_some] <;> rfl), by repeat (first | (with_reducible first | exact HB.out | apply below_alloc | apply pw_below_drewN | apply below_drew1) | exact HB.out)⟩
      ·
       rw [if_neg c70] at H
       have c70b0 : decide (x17_2 < (l2.length : Int)) = false := decide_eq_false c70
       clear c70
       have HC146 := Aside0.mk H
       clear H
       go_upto_region 14 with (fail)
       go_cut [80] (fun v80 wc => ∃ (kq : Nat) (x80_145 : Bool), v80 = .bool x80_145 ∧ Aside0 (customslaw35_TransitSeals.j4 kq x14_61 x15_2 (wrap64 (1 + t874)) t871 x80_145 = some r) ∧ Aside0 (kq ≤ k2) ∧ Aside0 (Kd.R (Kd.int .i64) 3 wc w.heap.size (fun k_ => some k_ ≠ (u15 : Value).ownBlock) u14 x14_61) ∧ Aside0 (Kd.R (Kd.int .i64) 3 wc w.heap.size (fun k_ => some k_ ≠ (u14 : Value).ownBlock) u15 x15_2) ∧ Aside0 (Kd.R k53 53 wc w.heap.size (fun _ => True) v872 t871) ∧ Aside0 (Below w.heap.size w wc))
       case first =>
        have H := HC146.out
        clear HC146
        by_cases c147 : (t871.length : Int) > 200
        ·
         rw [if_pos c147] at H
         have c147b0 : decide (200 < (t871.length : Int)) = true := decide_eq_true c147
         have c147b1 : decide (200 < t871.length) = true := decide_eq_true (by omega)
         clear c147
         (first | rw [c147b0] | (simp only [i64_w, i32_w]; rw [c147b0]) | skip)
         have H' := Aside0.mk H
         clear H
         obtain ⟨Ao148, co148, eo148⟩ := Kd.R_slice HO_13.out
         subst eo148
         go_wp2
         go_meet
         case rel => exact ⟨_, (true), (by first | rfl | (simp; done) | (simp [*]; done)), H', ⟨by have := HJ61.out; have := HK2.out; first | omega | exact Nat.le_refl _⟩, ⟨by (with_reducible repeat (first | apply Kd.R_alloc | apply Kd.R_drewN | apply Kd.R_drew)); exact HO_14.out⟩, ⟨by (with_reducible repeat (first | apply Kd.R_alloc | apply Kd.R_drewN | apply Kd.R_drew)); exact HO_15.out⟩, ⟨by (with_reducible repeat (first | apply Kd.R_alloc | apply Kd.R_drewN | apply Kd.R_drew)); exact HO_13.out⟩, ⟨by repeat (first | (with_reducible first | exact HB.out | apply below_alloc | apply pw_below_drewN | apply below_drew1) | exact HB.out)⟩⟩
        ·
         rw [if_neg c147] at H
         have c147b0 : decide (200 < (t871.length : Int)) = false := decide_eq_false c147
         have c147b1 : decide (200 < t871.length) = false := decide_eq_false (by omega)
         clear c147
         (first | rw [c147b0] | (simp only [i64_w, i32_w]; rw [c147b0]) | skip)
         by_cases c149 : (x14_61.length : Int) > 200
         ·
          rw [if_pos c149] at H
          have c149b0 : decide (200 < (x14_61.length : Int)) = true := decide_eq_true c149
          have c149b1 : decide (200 < x14_61.length) = true := decide_eq_true (by omega)
          clear c149
          have H' := Aside0.mk H
          clear H
          obtain ⟨Ao150, co150, eo150⟩ := Kd.R_slice HO_13.out
          subst eo150
          obtain ⟨Ao151, co151, eo151⟩ := Kd.R_slice HO_14.out
          subst eo151
          go_wp2
          go_meet
          case rel => exact ⟨_, (true), (by first | rfl | (simp; done) | (simp [*]; done)), H', ⟨by have := HJ61.out; have := HK2.out; first | omega | exact Nat.le_refl _⟩, ⟨by (with_reducible repeat (first | apply Kd.R_alloc | apply Kd.R_drewN | apply Kd.R_drew)); exact HO_14.out⟩, ⟨by (with_reducible repeat (first | apply Kd.R_alloc | apply Kd.R_drewN | apply Kd.R_drew)); exact HO_15.out⟩, ⟨by (with_reducible repeat (first | apply Kd.R_alloc | apply Kd.R_drewN | apply Kd.R_drew)); exact HO_13.out⟩, ⟨by repeat (first | (with_reducible first | exact HB.out | apply below_alloc | apply pw_below_drewN | apply below_drew1) | exact HB.out)⟩⟩
         ·
          rw [if_neg c149] at H
          have c149b0 : decide (200 < (x14_61.length : Int)) = false := decide_eq_false c149
          have c149b1 : decide (200 < x14_61.length) = false := decide_eq_false (by omega)
          clear c149
          have H' := Aside0.mk H
          clear H
          obtain ⟨Ao152, co152, eo152⟩ := Kd.R_slice HO_13.out
          subst eo152
          obtain ⟨Ao153, co153, eo153⟩ := Kd.R_slice HO_14.out
          subst eo153
          obtain ⟨Ao154, co154, eo154⟩ := Kd.R_slice HO_15.out
          subst eo154
          go_wp2
          go_meet
          case rel => exact ⟨_, (decide ((x15_2.length : Int) > 200)), (by first | rfl | (simp; done) | (simp [*]; done)), H', ⟨by have := HJ61.out; have := HK2.out; first | omega | exact Nat.le_refl _⟩, ⟨by (with_reducible repeat (first | apply Kd.R_alloc | apply Kd.R_drewN | apply Kd.R_drew)); exact HO_14.out⟩, ⟨by (with_reducible repeat (first | apply Kd.R_alloc | apply Kd.R_drewN | apply Kd.R_drew)); exact HO_15.out⟩, ⟨by (with_reducible repeat (first | apply Kd.R_alloc | apply Kd.R_drewN | apply Kd.R_drew)); exact HO_13.out⟩, ⟨by repeat (first | (with_reducible first | exact HB.out | apply below_alloc | apply pw_below_drewN | apply below_drew1) | exact HB.out)⟩⟩
       case rest =>
        clear HC146
        try clear c1
        try clear c2
        try clear p2
        try clear c4
        try clear c5
        try clear c6
        try clear p6
        try clear c7
        try clear c8
        try clear p8
        try clear q8
        try clear hx8
        try clear c9
        try clear c9b0
        try clear c9b1
        try clear c10
        try clear c10b0
        try clear c10b1
        try clear c11
        try clear c14
        try clear c16
        try clear c19
        try clear c20
        try clear c21
        try clear c22
        try clear c23
        try clear c24
        try clear c64
        try clear c64b0
        try clear p64
        try clear c65
        try clear c65b0
        try clear c66
        try clear c66b0
        try clear c68
        try clear c70
        try clear c70b0
        try clear c71
        try clear c71b0
        try clear c72
        try clear c72b0
        try clear c74
        try clear c77
        try clear c77b0
        try clear c77b1
        try clear c79
        try clear c79b0
        try clear c79b1
        try clear c85
        try clear p87
        try clear q87
        try clear hx87
        try clear p88
        try clear q88
        try clear hx88
        try clear c93
        try clear c95
        try clear c97
        try clear c147
        try clear c147b0
        try clear c147b1
        try clear c149
        try clear c149b0
        try clear c149b1
        try clear hx875_0
        try clear hx880_0
        try clear p2
        try clear p6
        try clear p64
        try clear p8
        try clear p875
        try clear p880
        try clear q8
        try clear q875
        try clear q880
        obtain ⟨kq, x80_145, rfl, HA, HJ145, HO_1, HO_2, HO_13, HB⟩ := hcut
        cases kq with
        | zero => exact absurd HA.out (by simp [customslaw35_TransitSeals.j4])
        | succ kj145 =>
         have H := HA.out
         clear HA
         simp only [customslaw35_TransitSeals.j4] at H
         by_cases c155 : x80_145 = true
         ·
          subst c155
          have H1 : ((customslaw35_awake.f).bind fun t908 => (some t908)) = some r := by rw [if_pos rfl] at H; exact H
          clear H
          have H := H1
          clear H1
          replace H := Option.bind_eq_some_iff.mp H
          obtain ⟨t908, A1560, H⟩ := H
          replace H : (some t908) = some r := H
          have A156 := Aside0.mk A1560
          clear A1560
          obtain rfl := Option.some.inj H
          go_wp2_with (first | ((with_reducible refine gate_callee (f := 16) rfl ?_); refine goesL_ (some 81) rfl rfl Tryd.func16 (by kernel_rfl) rfl #[] rfl (by (try simp only [List.map_toArray, List.map_cons, List.map_nil]); first | done | rfl | (simp only [List.length_drop, List.length_take]; rfl)) ?_; (with_reducible refine (customslaw35_awake.calls  t908 _ ?side1 A156.out).mono ?_); (case side1 => exact GL_changes.of_below HB.out HG_changes.out); rintro e w157 ⟨rfl, hb⟩; refine ⟨_, rfl, ?_⟩; have n0_ := Aside0.mk (Kd.R_below HO_1.out hb); have n1_ := Aside0.mk (Kd.R_below HO_2.out hb); have n2_ := Aside0.mk (Kd.R_below HO_13.out hb); have n3_ := Aside0.mk (below_step HB.out hb); clear HO_1; clear HO_2; clear HO_13; clear HB; have HO_1 := n0_; have HO_2 := n1_; have HO_13 := n2_; have HB := n3_; clear n0_ n1_ n2_ n3_; (try clear hb); (try clear hb2); (try clear hk); (try clear hi)))
          go_ret
          exact ⟨by first | rfl | (simp [errW_none, errW_some] <;> rfl) | (simp [*, errW_none, errW_some] <;> rfl), by repeat (first | (with_reducible first | exact HB.out | apply below_alloc | apply pw_below_drewN | apply below_drew1) | exact HB.out)⟩
         ·
          replace c155 := Bool.eq_false_iff.mpr c155
          subst c155
          have H1 : ((transit_Compare.f x14_61 x15_2).bind fun bt909 => ((customsref33_Compare.f kj145 x14_61 x15_2).bind fun bt915 => ((transit_Seals.f x14_61 (wrap64 (1 + t874)) t871).bind fun t921 => ((customsref33_Seals.f kj145 x14_61 (wrap64 (1 + t874)) t871).bind fun t924 => ((customsref33_SameInts.f kj145 t921 t924).bind fun t927 => (if t927 = true then ((customsref33_SameInts.f kj145 bt909.1 bt915.1).bind fun t928 => (if t928 = true then ((customsref33_SameInts.f kj145 bt909.2 bt915.2).bind fun t929 => (if t929 = true then ((customslaw35_awake.f).bind fun t930 => (some t930)) else (some false))) else (some false))) else (some false))))))) = some r := by rw [if_neg (show ¬ (false = true) by decide)] at H; exact H
          clear H
          have H := H1
          clear H1
          replace H := Option.bind_eq_some_iff.mp H
          obtain ⟨⟨t909, t910⟩, A1580, H⟩ := H
          replace H : ((customsref33_Compare.f kj145 x14_61 x15_2).bind fun bt915 => ((transit_Seals.f x14_61 (wrap64 (1 + t874)) t871).bind fun t921 => ((customsref33_Seals.f kj145 x14_61 (wrap64 (1 + t874)) t871).bind fun t924 => ((customsref33_SameInts.f kj145 t921 t924).bind fun t927 => (if t927 = true then ((customsref33_SameInts.f kj145 t909 bt915.1).bind fun t928 => (if t928 = true then ((customsref33_SameInts.f kj145 t910 bt915.2).bind fun t929 => (if t929 = true then ((customslaw35_awake.f).bind fun t930 => (some t930)) else (some false))) else (some false))) else (some false)))))) = some r := H
          have A158 := Aside0.mk A1580
          clear A1580
          replace H := Option.bind_eq_some_iff.mp H
          obtain ⟨⟨t915, t918⟩, A1590, H⟩ := H
          replace H : ((transit_Seals.f x14_61 (wrap64 (1 + t874)) t871).bind fun t921 => ((customsref33_Seals.f kj145 x14_61 (wrap64 (1 + t874)) t871).bind fun t924 => ((customsref33_SameInts.f kj145 t921 t924).bind fun t927 => (if t927 = true then ((customsref33_SameInts.f kj145 t909 t915).bind fun t928 => (if t928 = true then ((customsref33_SameInts.f kj145 t910 t918).bind fun t929 => (if t929 = true then ((customslaw35_awake.f).bind fun t930 => (some t930)) else (some false))) else (some false))) else (some false))))) = some r := H
          have A159 := Aside0.mk A1590
          clear A1590
          replace H := Option.bind_eq_some_iff.mp H
          obtain ⟨t921, A1600, H⟩ := H
          replace H : ((customsref33_Seals.f kj145 x14_61 (wrap64 (1 + t874)) t871).bind fun t924 => ((customsref33_SameInts.f kj145 t921 t924).bind fun t927 => (if t927 = true then ((customsref33_SameInts.f kj145 t909 t915).bind fun t928 => (if t928 = true then ((customsref33_SameInts.f kj145 t910 t918).bind fun t929 => (if t929 = true then ((customslaw35_awake.f).bind fun t930 => (some t930)) else (some false))) else (some false))) else (some false)))) = some r := H
          have A160 := Aside0.mk A1600
          clear A1600
          replace H := Option.bind_eq_some_iff.mp H
          obtain ⟨t924, A1610, H⟩ := H
          replace H : ((customsref33_SameInts.f kj145 t921 t924).bind fun t927 => (if t927 = true then ((customsref33_SameInts.f kj145 t909 t915).bind fun t928 => (if t928 = true then ((customsref33_SameInts.f kj145 t910 t918).bind fun t929 => (if t929 = true then ((customslaw35_awake.f).bind fun t930 => (some t930)) else (some false))) else (some false))) else (some false))) = some r := H
          have A161 := Aside0.mk A1610
          clear A1610
          replace H := Option.bind_eq_some_iff.mp H
          obtain ⟨t927, A1620, H⟩ := H
          replace H : (if t927 = true then ((customsref33_SameInts.f kj145 t909 t915).bind fun t928 => (if t928 = true then ((customsref33_SameInts.f kj145 t910 t918).bind fun t929 => (if t929 = true then ((customslaw35_awake.f).bind fun t930 => (some t930)) else (some false))) else (some false))) else (some false)) = some r := H
          have A162 := Aside0.mk A1620
          clear A1620
          by_cases c163 : t927 = true
          ·
           subst c163
           have H1 : ((customsref33_SameInts.f kj145 t909 t915).bind fun t928 => (if t928 = true then ((customsref33_SameInts.f kj145 t910 t918).bind fun t929 => (if t929 = true then ((customslaw35_awake.f).bind fun t930 => (some t930)) else (some false))) else (some false))) = some r := by rw [if_pos rfl] at H; exact H
           clear H
           have H := H1
           clear H1
           replace H := Option.bind_eq_some_iff.mp H
           obtain ⟨t928, A1640, H⟩ := H
           replace H : (if t928 = true then ((customsref33_SameInts.f kj145 t910 t918).bind fun t929 => (if t929 = true then ((customslaw35_awake.f).bind fun t930 => (some t930)) else (some false))) else (some false)) = some r := H
           have A164 := Aside0.mk A1640
           clear A1640
           by_cases c165 : t928 = true
           ·
            subst c165
            have H1 : ((customsref33_SameInts.f kj145 t910 t918).bind fun t929 => (if t929 = true then ((customslaw35_awake.f).bind fun t930 => (some t930)) else (some false))) = some r := by rw [if_pos rfl] at H; exact H
            clear H
            have H := H1
            clear H1
            replace H := Option.bind_eq_some_iff.mp H
            obtain ⟨t929, A1660, H⟩ := H
            replace H : (if t929 = true then ((customslaw35_awake.f).bind fun t930 => (some t930)) else (some false)) = some r := H
            have A166 := Aside0.mk A1660
            clear A1660
            by_cases c167 : t929 = true
            ·
             subst c167
             have H1 : ((customslaw35_awake.f).bind fun t930 => (some t930)) = some r := by rw [if_pos rfl] at H; exact H
             clear H
             have H := H1
             clear H1
             replace H := Option.bind_eq_some_iff.mp H
             obtain ⟨t930, A1680, H⟩ := H
             replace H : (some t930) = some r := H
             have A168 := Aside0.mk A1680
             clear A1680
             obtain rfl := Option.some.inj H
             obtain ⟨Ao169, co169, eo169⟩ := Kd.R_slice HO_1.out
             subst eo169
             obtain ⟨Ao170, co170, eo170⟩ := Kd.R_slice HO_2.out
             subst eo170
             go_wp2_with (first | ((with_reducible refine gate_callee (f := 20) rfl ?_); refine goesL_ (some 85) rfl rfl Tryd.func20 (by kernel_rfl) rfl #[.slice Ao169 x14_61.length co169, .slice Ao170 x15_2.length co170] rfl (by (try simp only [List.map_toArray, List.map_cons, List.map_nil]); first | done | rfl | (simp only [List.length_drop, List.length_take]; rfl)) ?_; (with_reducible refine (transit_Compare.calls _ _ x14_61 _ _ x15_2 t909 t910 _ ?side1 ?side2 ?side3 ?side4 A158.out).mono ?_); (case side1 => repeat (first | exact (Kd.R_reads' HO_1.out).2.2 | (with_reducible refine Kd.C_alloc ?_ _) | (with_reducible refine Kd.C_drewN ?_ _) | (with_reducible refine Kd.C_drew ?_))); (case side2 => exact (Kd.R_reads' HO_1.out).2.1); (case side3 => repeat (first | exact (Kd.R_reads' HO_2.out).2.2 | (with_reducible refine Kd.C_alloc ?_ _) | (with_reducible refine Kd.C_drewN ?_ _) | (with_reducible refine Kd.C_drew ?_))); (case side4 => exact (Kd.R_reads' HO_2.out).2.1); rintro e w171 ⟨v911, v913, rfl, ho0, ho1, hb⟩; refine ⟨_, rfl, ?_⟩; have n0_ := Aside0.mk (Kd.R_mono (Kd.R_told (Kd.R_told (Kd.R_old (by (with_reducible repeat (first | apply Kd.R_alloc | apply Kd.R_drewN | apply Kd.R_drew)); exact HO_1.out) hb) (Kd.R_base ho0)) (Kd.R_base ho1)) (fun _ h_ => h_.1)); have n1_ := Aside0.mk (Kd.R_mono (Kd.R_told (Kd.R_told (Kd.R_old (by (with_reducible repeat (first | apply Kd.R_alloc | apply Kd.R_drewN | apply Kd.R_drew)); exact HO_2.out) hb) (Kd.R_base ho0)) (Kd.R_base ho1)) (fun _ h_ => h_.1)); have n2_ := Aside0.mk (Kd.R_below (by (with_reducible repeat (first | apply Kd.R_alloc | apply Kd.R_drewN | apply Kd.R_drew)); exact HO_13.out) hb); have n3_ := Aside0.mk (Kd.R_lower (Kd.R_new' (Kd.R_new' ho0 (Kd.R_lt (by (with_reducible repeat (first | apply Kd.R_alloc | apply Kd.R_drewN | apply Kd.R_drew)); exact HO_1.out))) (Kd.R_lt (by (with_reducible repeat (first | apply Kd.R_alloc | apply Kd.R_drewN | apply Kd.R_drew)); exact HO_2.out))) (below_size (by repeat (first | (with_reducible first | exact HB.out | apply below_alloc | apply pw_below_drewN | apply below_drew1) | exact HB.out)))); have n4_ := Aside0.mk (Kd.R_lower (Kd.R_new' (Kd.R_new' ho1 (Kd.R_lt (by (with_reducible repeat (first | apply Kd.R_alloc | apply Kd.R_drewN | apply Kd.R_drew)); exact HO_1.out))) (Kd.R_lt (by (with_reducible repeat (first | apply Kd.R_alloc | apply Kd.R_drewN | apply Kd.R_drew)); exact HO_2.out))) (below_size (by repeat (first | (with_reducible first | exact HB.out | apply below_alloc | apply pw_below_drewN | apply below_drew1) | exact HB.out)))); have n5_ := Aside0.mk (below_step (by repeat (first | (with_reducible first | exact HB.out | apply below_alloc | apply pw_below_drewN | apply below_drew1) | exact HB.out)) hb); clear HO_1; clear HO_2; clear HO_13; clear HB; have HO_1 := n0_; have HO_2 := n1_; have HO_13 := n2_; have HO912 := n3_; have HO914 := n4_; have HB := n5_; clear n0_ n1_ n2_ n3_ n4_ n5_; (try clear hb); (try clear hb2); (try clear hk); (try clear hi); (try clear ho0); (try clear ho1)) | ((with_reducible refine gate_callee (f := 21) rfl ?_); refine goesL_ (some 91) rfl rfl Tryd.func21 (by kernel_rfl) rfl #[.slice Ao169 x14_61.length co169, .slice Ao170 x15_2.length co170] rfl (by (try simp only [List.map_toArray, List.map_cons, List.map_nil]); first | done | rfl | (simp only [List.length_drop, List.length_take]; rfl)) ?_; (with_reducible refine (customsref33_Compare.calls kj145 _ _ x14_61 _ _ x15_2 t915 t918 _ ?side1 ?side2 ?side3 ?side4 A159.out).mono ?_); (case side1 => repeat (first | exact (Kd.R_reads' HO_1.out).2.2 | (with_reducible refine Kd.C_alloc ?_ _) | (with_reducible refine Kd.C_drewN ?_ _) | (with_reducible refine Kd.C_drew ?_))); (case side2 => exact (Kd.R_reads' HO_1.out).2.1); (case side3 => repeat (first | exact (Kd.R_reads' HO_2.out).2.2 | (with_reducible refine Kd.C_alloc ?_ _) | (with_reducible refine Kd.C_drewN ?_ _) | (with_reducible refine Kd.C_drew ?_))); (case side4 => exact (Kd.R_reads' HO_2.out).2.1); rintro e w172 ⟨v916, v919, rfl, ho0, ho1, hb⟩; refine ⟨_, rfl, ?_⟩; have n0_ := Aside0.mk (Kd.R_below (by (with_reducible repeat (first | apply Kd.R_alloc | apply Kd.R_drewN | apply Kd.R_drew)); exact HO_1.out) hb); have n1_ := Aside0.mk (Kd.R_below (by (with_reducible repeat (first | apply Kd.R_alloc | apply Kd.R_drewN | apply Kd.R_drew)); exact HO_2.out) hb); have n2_ := Aside0.mk (Kd.R_below (by (with_reducible repeat (first | apply Kd.R_alloc | apply Kd.R_drewN | apply Kd.R_drew)); exact HO_13.out) hb); have n3_ := Aside0.mk (Kd.R_below (by (with_reducible repeat (first | apply Kd.R_alloc | apply Kd.R_drewN | apply Kd.R_drew)); exact HO912.out) hb); have n4_ := Aside0.mk (Kd.R_below (by (with_reducible repeat (first | apply Kd.R_alloc | apply Kd.R_drewN | apply Kd.R_drew)); exact HO914.out) hb); have n5_ := Aside0.mk (Kd.V_lower (Kd.V_mono (ok' := fun k_ => some k_ ≠ (.slice Ao169 x14_61.length co169 : Value).ownBlock ∧ some k_ ≠ (.slice Ao170 x15_2.length co170 : Value).ownBlock ∧ some k_ ≠ (v872 : Value).ownBlock ∧ some k_ ≠ (v911 : Value).ownBlock ∧ some k_ ≠ (v913 : Value).ownBlock) ho0 (fun k_ hk_ => ⟨(Kd.fresh' (Kd.R_lt (by (with_reducible repeat (first | apply Kd.R_alloc | apply Kd.R_drewN | apply Kd.R_drew)); exact HO_1.out)) k_ hk_), (Kd.fresh' (Kd.R_lt (by (with_reducible repeat (first | apply Kd.R_alloc | apply Kd.R_drewN | apply Kd.R_drew)); exact HO_2.out)) k_ hk_), (Kd.fresh' (Kd.R_lt (by (with_reducible repeat (first | apply Kd.R_alloc | apply Kd.R_drewN | apply Kd.R_drew)); exact HO_13.out)) k_ hk_), (Kd.fresh' (Kd.R_lt (by (with_reducible repeat (first | apply Kd.R_alloc | apply Kd.R_drewN | apply Kd.R_drew)); exact HO912.out)) k_ hk_), (Kd.fresh' (Kd.R_lt (by (with_reducible repeat (first | apply Kd.R_alloc | apply Kd.R_drewN | apply Kd.R_drew)); exact HO914.out)) k_ hk_)⟩)) (below_size (by repeat (first | (with_reducible first | exact HB.out | apply below_alloc | apply pw_below_drewN | apply below_drew1) | exact HB.out)))); have n6_ := Aside0.mk (Kd.V_lower (Kd.V_mono (ok' := fun k_ => some k_ ≠ (.slice Ao169 x14_61.length co169 : Value).ownBlock ∧ some k_ ≠ (.slice Ao170 x15_2.length co170 : Value).ownBlock ∧ some k_ ≠ (v872 : Value).ownBlock ∧ some k_ ≠ (v911 : Value).ownBlock ∧ some k_ ≠ (v913 : Value).ownBlock) ho1 (fun k_ hk_ => ⟨(Kd.fresh' (Kd.R_lt (by (with_reducible repeat (first | apply Kd.R_alloc | apply Kd.R_drewN | apply Kd.R_drew)); exact HO_1.out)) k_ hk_), (Kd.fresh' (Kd.R_lt (by (with_reducible repeat (first | apply Kd.R_alloc | apply Kd.R_drewN | apply Kd.R_drew)); exact HO_2.out)) k_ hk_), (Kd.fresh' (Kd.R_lt (by (with_reducible repeat (first | apply Kd.R_alloc | apply Kd.R_drewN | apply Kd.R_drew)); exact HO_13.out)) k_ hk_), (Kd.fresh' (Kd.R_lt (by (with_reducible repeat (first | apply Kd.R_alloc | apply Kd.R_drewN | apply Kd.R_drew)); exact HO912.out)) k_ hk_), (Kd.fresh' (Kd.R_lt (by (with_reducible repeat (first | apply Kd.R_alloc | apply Kd.R_drewN | apply Kd.R_drew)); exact HO914.out)) k_ hk_)⟩)) (below_size (by repeat (first | (with_reducible first | exact HB.out | apply below_alloc | apply pw_below_drewN | apply below_drew1) | exact HB.out)))); have n7_ := Aside0.mk (below_step (by repeat (first | (with_reducible first | exact HB.out | apply below_alloc | apply pw_below_drewN | apply below_drew1) | exact HB.out)) hb); clear HO_1; clear HO_2; clear HO_13; clear HO912; clear HO914; clear HB; have HO_1 := n0_; have HO_2 := n1_; have HO_13 := n2_; have HO912 := n3_; have HO914 := n4_; have HO917 := n5_; have HO920 := n6_; have HB := n7_; clear n0_ n1_ n2_ n3_ n4_ n5_ n6_ n7_; (try clear hb); (try clear hb2); (try clear hk); (try clear hi); (try clear ho0); (try clear ho1); obtain ⟨Ao173, co173, eo173⟩ := Kd.R_slice HO_13.out; subst eo173) | ((with_reducible refine gate_callee (f := 23) rfl ?_); refine goesL_ (some 97) rfl rfl Tryd.func23 (by kernel_rfl) rfl #[.slice Ao169 x14_61.length co169, .int .i64 (wrap64 (1 + t874)), .slice Ao173 t871.length co173] rfl (by (try simp only [List.map_toArray, List.map_cons, List.map_nil]); first | done | rfl | (simp only [List.length_drop, List.length_take]; rfl)) ?_; (with_reducible refine (transit_Seals.calls _ _ x14_61 (wrap64 (1 + t874)) _ _ t871 t921 _ ?side1 ?side2 ?side3 ?side4 A160.out).mono ?_); (case side1 => repeat (first | exact (Kd.R_reads' HO_1.out).2.2 | (with_reducible refine Kd.C_alloc ?_ _) | (with_reducible refine Kd.C_drewN ?_ _) | (with_reducible refine Kd.C_drew ?_))); (case side2 => exact (Kd.R_reads' HO_1.out).2.1); (case side3 => repeat (first | exact (Kd.R_reads' HO_13.out).2.2 | (with_reducible refine Kd.C_alloc ?_ _) | (with_reducible refine Kd.C_drewN ?_ _) | (with_reducible refine Kd.C_drew ?_))); (case side4 => exact (Kd.R_reads' HO_13.out).2.1); rintro e w174 ⟨v922, rfl, ho0, hb⟩; refine ⟨_, rfl, ?_⟩; have n0_ := Aside0.mk (Kd.R_elder' (by (with_reducible repeat (first | apply Kd.R_alloc | apply Kd.R_drewN | apply Kd.R_drew)); exact HO_1.out) (Kd.R_base ho0) hb); have n1_ := Aside0.mk (Kd.R_elder' (by (with_reducible repeat (first | apply Kd.R_alloc | apply Kd.R_drewN | apply Kd.R_drew)); exact HO_2.out) (Kd.R_base ho0) hb); have n2_ := Aside0.mk (Kd.R_below (by (with_reducible repeat (first | apply Kd.R_alloc | apply Kd.R_drewN | apply Kd.R_drew)); exact HO_13.out) hb); have n3_ := Aside0.mk (Kd.R_elder' (by (with_reducible repeat (first | apply Kd.R_alloc | apply Kd.R_drewN | apply Kd.R_drew)); exact HO912.out) (Kd.R_base ho0) hb); have n4_ := Aside0.mk (Kd.R_elder' (by (with_reducible repeat (first | apply Kd.R_alloc | apply Kd.R_drewN | apply Kd.R_drew)); exact HO914.out) (Kd.R_base ho0) hb); have n5_ := Aside0.mk (Kd.V_elder' (by (with_reducible repeat (first | apply Kd.V_alloc | apply Kd.V_drewN | apply Kd.V_drew)); exact HO917.out) (Kd.R_base ho0) hb); have n6_ := Aside0.mk (Kd.V_elder' (by (with_reducible repeat (first | apply Kd.V_alloc | apply Kd.V_drewN | apply Kd.V_drew)); exact HO920.out) (Kd.R_base ho0) hb); have n7_ := Aside0.mk (Kd.R_lower (Kd.R_new' (Kd.R_new' (Kd.R_new' (Kd.R_new' ho0 (Kd.R_lt (by (with_reducible repeat (first | apply Kd.R_alloc | apply Kd.R_drewN | apply Kd.R_drew)); exact HO_1.out))) (Kd.R_lt (by (with_reducible repeat (first | apply Kd.R_alloc | apply Kd.R_drewN | apply Kd.R_drew)); exact HO_2.out))) (Kd.R_lt (by (with_reducible repeat (first | apply Kd.R_alloc | apply Kd.R_drewN | apply Kd.R_drew)); exact HO912.out))) (Kd.R_lt (by (with_reducible repeat (first | apply Kd.R_alloc | apply Kd.R_drewN | apply Kd.R_drew)); exact HO914.out))) (below_size (by repeat (first | (with_reducible first | exact HB.out | apply below_alloc | apply pw_below_drewN | apply below_drew1) | exact HB.out)))); have n8_ := Aside0.mk (below_step (by repeat (first | (with_reducible first | exact HB.out | apply below_alloc | apply pw_below_drewN | apply below_drew1) | exact HB.out)) hb); clear HO_1; clear HO_2; clear HO_13; clear HO912; clear HO914; clear HO917; clear HO920; clear HB; have HO_1 := n0_; have HO_2 := n1_; have HO_13 := n2_; have HO912 := n3_; have HO914 := n4_; have HO917 := n5_; have HO920 := n6_; have HO923 := n7_; have HB := n8_; clear n0_ n1_ n2_ n3_ n4_ n5_ n6_ n7_ n8_; (try clear hb); (try clear hb2); (try clear hk); (try clear hi); (try clear ho0)) | ((with_reducible refine gate_callee (f := 24) rfl ?_); refine goesL_ (some 101) rfl rfl Tryd.func24 (by kernel_rfl) rfl #[.slice Ao169 x14_61.length co169, .int .i64 (wrap64 (1 + t874)), .slice Ao173 t871.length co173] rfl (by (try simp only [List.map_toArray, List.map_cons, List.map_nil]); first | done | rfl | (simp only [List.length_drop, List.length_take]; rfl)) ?_; (with_reducible refine (customsref33_Seals.calls kj145 _ _ x14_61 (wrap64 (1 + t874)) _ _ t871 t924 _ ?side1 ?side2 ?side3 ?side4 A161.out).mono ?_); (case side1 => repeat (first | exact (Kd.R_reads' HO_1.out).2.2 | (with_reducible refine Kd.C_alloc ?_ _) | (with_reducible refine Kd.C_drewN ?_ _) | (with_reducible refine Kd.C_drew ?_))); (case side2 => exact (Kd.R_reads' HO_1.out).2.1); (case side3 => repeat (first | exact (Kd.R_reads' HO_13.out).2.2 | (with_reducible refine Kd.C_alloc ?_ _) | (with_reducible refine Kd.C_drewN ?_ _) | (with_reducible refine Kd.C_drew ?_))); (case side4 => exact (Kd.R_reads' HO_13.out).2.1); rintro e w175 ⟨v925, rfl, ho0, hb⟩; refine ⟨_, rfl, ?_⟩; have n0_ := Aside0.mk (Kd.R_elder' (by (with_reducible repeat (first | apply Kd.R_alloc | apply Kd.R_drewN | apply Kd.R_drew)); exact HO_1.out) (Kd.R_base ho0) hb); have n1_ := Aside0.mk (Kd.R_elder' (by (with_reducible repeat (first | apply Kd.R_alloc | apply Kd.R_drewN | apply Kd.R_drew)); exact HO_2.out) (Kd.R_base ho0) hb); have n2_ := Aside0.mk (Kd.R_below (by (with_reducible repeat (first | apply Kd.R_alloc | apply Kd.R_drewN | apply Kd.R_drew)); exact HO_13.out) hb); have n3_ := Aside0.mk (Kd.R_elder' (by (with_reducible repeat (first | apply Kd.R_alloc | apply Kd.R_drewN | apply Kd.R_drew)); exact HO912.out) (Kd.R_base ho0) hb); have n4_ := Aside0.mk (Kd.R_elder' (by (with_reducible repeat (first | apply Kd.R_alloc | apply Kd.R_drewN | apply Kd.R_drew)); exact HO914.out) (Kd.R_base ho0) hb); have n5_ := Aside0.mk (Kd.V_elder' (by (with_reducible repeat (first | apply Kd.V_alloc | apply Kd.V_drewN | apply Kd.V_drew)); exact HO917.out) (Kd.R_base ho0) hb); have n6_ := Aside0.mk (Kd.V_elder' (by (with_reducible repeat (first | apply Kd.V_alloc | apply Kd.V_drewN | apply Kd.V_drew)); exact HO920.out) (Kd.R_base ho0) hb); have n7_ := Aside0.mk (Kd.R_elder' (by (with_reducible repeat (first | apply Kd.R_alloc | apply Kd.R_drewN | apply Kd.R_drew)); exact HO923.out) (Kd.R_base ho0) hb); have n8_ := Aside0.mk (Kd.R_lower (Kd.R_new' (Kd.R_new' (Kd.R_new' (Kd.R_new' (Kd.R_new' ho0 (Kd.R_lt (by (with_reducible repeat (first | apply Kd.R_alloc | apply Kd.R_drewN | apply Kd.R_drew)); exact HO_1.out))) (Kd.R_lt (by (with_reducible repeat (first | apply Kd.R_alloc | apply Kd.R_drewN | apply Kd.R_drew)); exact HO_2.out))) (Kd.R_lt (by (with_reducible repeat (first | apply Kd.R_alloc | apply Kd.R_drewN | apply Kd.R_drew)); exact HO912.out))) (Kd.R_lt (by (with_reducible repeat (first | apply Kd.R_alloc | apply Kd.R_drewN | apply Kd.R_drew)); exact HO914.out))) (Kd.R_lt (by (with_reducible repeat (first | apply Kd.R_alloc | apply Kd.R_drewN | apply Kd.R_drew)); exact HO923.out))) (below_size (by repeat (first | (with_reducible first | exact HB.out | apply below_alloc | apply pw_below_drewN | apply below_drew1) | exact HB.out)))); have n9_ := Aside0.mk (below_step (by repeat (first | (with_reducible first | exact HB.out | apply below_alloc | apply pw_below_drewN | apply below_drew1) | exact HB.out)) hb); clear HO_1; clear HO_2; clear HO_13; clear HO912; clear HO914; clear HO917; clear HO920; clear HO923; clear HB; have HO_1 := n0_; have HO_2 := n1_; have HO_13 := n2_; have HO912 := n3_; have HO914 := n4_; have HO917 := n5_; have HO920 := n6_; have HO923 := n7_; have HO926 := n8_; have HB := n9_; clear n0_ n1_ n2_ n3_ n4_ n5_ n6_ n7_ n8_ n9_; (try clear hb); (try clear hb2); (try clear hk); (try clear hi); (try clear ho0); obtain ⟨Ao176, co176, eo176⟩ := Kd.R_slice HO923.out; subst eo176; obtain ⟨Ao177, co177, eo177⟩ := Kd.R_slice HO926.out; subst eo177) | ((with_reducible refine gate_callee (f := 22) rfl ?_); refine goesL_ (some 102) rfl rfl Tryd.func22 (by kernel_rfl) rfl #[.slice Ao176 t921.length co176, .slice Ao177 t924.length co177] rfl (by (try simp only [List.map_toArray, List.map_cons, List.map_nil]); first | done | rfl | (simp only [List.length_drop, List.length_take]; rfl)) ?_; (with_reducible refine (customsref33_SameInts.calls kj145 _ _ t921 _ _ t924 true _ ?side1 ?side2 ?side3 ?side4 A162.out).mono ?_); (case side1 => repeat (first | exact (Kd.R_reads' HO923.out).2.2 | (with_reducible refine Kd.C_alloc ?_ _) | (with_reducible refine Kd.C_drewN ?_ _) | (with_reducible refine Kd.C_drew ?_))); (case side2 => exact (Kd.R_reads' HO923.out).2.1); (case side3 => repeat (first | exact (Kd.R_reads' HO926.out).2.2 | (with_reducible refine Kd.C_alloc ?_ _) | (with_reducible refine Kd.C_drewN ?_ _) | (with_reducible refine Kd.C_drew ?_))); (case side4 => exact (Kd.R_reads' HO926.out).2.1); rintro e w' ⟨rfl, ⟨nd, rfl⟩⟩; refine ⟨_, rfl, ?_⟩; obtain ⟨Ao178, co178, eo178⟩ := Kd.R_slice HO912.out; subst eo178; obtain ⟨Ao179, co179, eo179⟩ := Kd.V_slice HO917.out; subst eo179) | (go_at_call 22; (with_reducible refine (customsref33_SameInts.calls kj145 _ _ t909 _ _ t915 true _ ?side1 ?side2 ?side3 ?side4 A164.out).mono ?_); (case side1 => repeat (first | exact (Kd.R_reads' HO912.out).2.2 | (with_reducible refine Kd.C_alloc ?_ _) | (with_reducible refine Kd.C_drewN ?_ _) | (with_reducible refine Kd.C_drew ?_))); (case side2 => exact (Kd.R_reads' HO912.out).2.1); (case side3 => repeat (first | exact (Kd.V_reads' HO917.out).2.2 | (with_reducible refine Kd.C_alloc ?_ _) | (with_reducible refine Kd.C_drewN ?_ _) | (with_reducible refine Kd.C_drew ?_))); (case side4 => exact (Kd.V_reads' HO917.out).2.1); rintro e w' ⟨rfl, ⟨nd, rfl⟩⟩; obtain ⟨Ao180, co180, eo180⟩ := Kd.R_slice HO914.out; subst eo180; obtain ⟨Ao181, co181, eo181⟩ := Kd.V_slice HO920.out; subst eo181) | (go_at_call 22; (with_reducible refine (customsref33_SameInts.calls kj145 _ _ t910 _ _ t918 true _ ?side1 ?side2 ?side3 ?side4 A166.out).mono ?_); (case side1 => repeat (first | exact (Kd.R_reads' HO914.out).2.2 | (with_reducible refine Kd.C_alloc ?_ _) | (with_reducible refine Kd.C_drewN ?_ _) | (with_reducible refine Kd.C_drew ?_))); (case side2 => exact (Kd.R_reads' HO914.out).2.1); (case side3 => repeat (first | exact (Kd.V_reads' HO920.out).2.2 | (with_reducible refine Kd.C_alloc ?_ _) | (with_reducible refine Kd.C_drewN ?_ _) | (with_reducible refine Kd.C_drew ?_))); (case side4 => exact (Kd.V_reads' HO920.out).2.1); rintro e w' ⟨rfl, ⟨nd, rfl⟩⟩) | (go_at_call 16; (with_reducible refine (customslaw35_awake.calls  t930 _ ?side1 A168.out).mono ?_); (case side1 => exact GL_changes.of_below (by repeat (first | (with_reducible first | exact HB.out | apply below_alloc | apply pw_below_drewN | apply below_drew1) | exact HB.out)) HG_changes.out); rintro e w182 ⟨rfl, hb⟩; have n0_ := Aside0.mk (Kd.R_below (by (with_reducible repeat (first | apply Kd.R_alloc | apply Kd.R_drewN | apply Kd.R_drew)); exact HO_1.out) hb); have n1_ := Aside0.mk (Kd.R_below (by (with_reducible repeat (first | apply Kd.R_alloc | apply Kd.R_drewN | apply Kd.R_drew)); exact HO_2.out) hb); have n2_ := Aside0.mk (Kd.R_below (by (with_reducible repeat (first | apply Kd.R_alloc | apply Kd.R_drewN | apply Kd.R_drew)); exact HO_13.out) hb); have n3_ := Aside0.mk (Kd.R_below (by (with_reducible repeat (first | apply Kd.R_alloc | apply Kd.R_drewN | apply Kd.R_drew)); exact HO912.out) hb); have n4_ := Aside0.mk (Kd.R_below (by (with_reducible repeat (first | apply Kd.R_alloc | apply Kd.R_drewN | apply Kd.R_drew)); exact HO914.out) hb); have n5_ := Aside0.mk (Kd.V_below (by (with_reducible repeat (first | apply Kd.V_alloc | apply Kd.V_drewN | apply Kd.V_drew)); exact HO917.out) hb); have n6_ := Aside0.mk (Kd.V_below (by (with_reducible repeat (first | apply Kd.V_alloc | apply Kd.V_drewN | apply Kd.V_drew)); exact HO920.out) hb); have n7_ := Aside0.mk (Kd.R_below (by (with_reducible repeat (first | apply Kd.R_alloc | apply Kd.R_drewN | apply Kd.R_drew)); exact HO923.out) hb); have n8_ := Aside0.mk (Kd.R_below (by (with_reducible repeat (first | apply Kd.R_alloc | apply Kd.R_drewN | apply Kd.R_drew)); exact HO926.out) hb); have n9_ := Aside0.mk (below_step (by repeat (first | (with_reducible first | exact HB.out | apply below_alloc | apply pw_below_drewN | apply below_drew1) | exact HB.out)) hb); clear HO_1; clear HO_2; clear HO_13; clear HO912; clear HO914; clear HO917; clear HO920; clear HO923; clear HO926; clear HB; have HO_1 := n0_; have HO_2 := n1_; have HO_13 := n2_; have HO912 := n3_; have HO914 := n4_; have HO917 := n5_; have HO920 := n6_; have HO923 := n7_; have HO926 := n8_; have HB := n9_; clear n0_ n1_ n2_ n3_ n4_ n5_ n6_ n7_ n8_ n9_; (try clear hb); (try clear hb2); (try clear hk); (try clear hi)))
             go_ret
             exact ⟨by first | rfl | (simp [errW_none, errW_some] <;> rfl) | (simp [*, errW_none, errW_some] <;> rfl), by repeat (first | (with_reducible first | exact HB.out | apply below_alloc | apply pw_below_drewN | apply below_drew1) | exact HB.out)⟩
            ·
             replace c167 := Bool.eq_false_iff.mpr c167
             subst c167
             have H1 : (some false) = some r := by rw [if_neg (show ¬ (false = true) by decide)] at H; exact H
             clear H
             have H := H1
             clear H1
             obtain rfl := Option.some.inj H
             obtain ⟨Ao183, co183, eo183⟩ := Kd.R_slice HO_1.out
             subst eo183
             obtain ⟨Ao184, co184, eo184⟩ := Kd.R_slice HO_2.out
             subst eo184
             go_wp2_with (first | ((with_reducible refine gate_callee (f := 20) rfl ?_); refine goesL_ (some 85) rfl rfl Tryd.func20 (by kernel_rfl) rfl #[.slice Ao183 x14_61.length co183, .slice Ao184 x15_2.length co184] rfl (by (try simp only [List.map_toArray, List.map_cons, List.map_nil]); first | done | rfl | (simp only [List.length_drop, List.length_take]; rfl)) ?_; (with_reducible refine (transit_Compare.calls _ _ x14_61 _ _ x15_2 t909 t910 _ ?side1 ?side2 ?side3 ?side4 A158.out).mono ?_); (case side1 => repeat (first | exact (Kd.R_reads' HO_1.out).2.2 | (with_reducible refine Kd.C_alloc ?_ _) | (with_reducible refine Kd.C_drewN ?_ _) | (with_reducible refine Kd.C_drew ?_))); (case side2 => exact (Kd.R_reads' HO_1.out).2.1); (case side3 => repeat (first | exact (Kd.R_reads' HO_2.out).2.2 | (with_reducible refine Kd.C_alloc ?_ _) | (with_reducible refine Kd.C_drewN ?_ _) | (with_reducible refine Kd.C_drew ?_))); (case side4 => exact (Kd.R_reads' HO_2.out).2.1); rintro e w185 ⟨v911, v913, rfl, ho0, ho1, hb⟩; refine ⟨_, rfl, ?_⟩; have n0_ := Aside0.mk (Kd.R_mono (Kd.R_told (Kd.R_told (Kd.R_old HO_1.out hb) (Kd.R_base ho0)) (Kd.R_base ho1)) (fun _ h_ => h_.1)); have n1_ := Aside0.mk (Kd.R_mono (Kd.R_told (Kd.R_told (Kd.R_old HO_2.out hb) (Kd.R_base ho0)) (Kd.R_base ho1)) (fun _ h_ => h_.1)); have n2_ := Aside0.mk (Kd.R_below HO_13.out hb); have n3_ := Aside0.mk (Kd.R_lower (Kd.R_new' (Kd.R_new' ho0 (Kd.R_lt HO_1.out)) (Kd.R_lt HO_2.out)) (below_size HB.out)); have n4_ := Aside0.mk (Kd.R_lower (Kd.R_new' (Kd.R_new' ho1 (Kd.R_lt HO_1.out)) (Kd.R_lt HO_2.out)) (below_size HB.out)); have n5_ := Aside0.mk (below_step HB.out hb); clear HO_1; clear HO_2; clear HO_13; clear HB; have HO_1 := n0_; have HO_2 := n1_; have HO_13 := n2_; have HO912 := n3_; have HO914 := n4_; have HB := n5_; clear n0_ n1_ n2_ n3_ n4_ n5_; (try clear hb); (try clear hb2); (try clear hk); (try clear hi); (try clear ho0); (try clear ho1)) | ((with_reducible refine gate_callee (f := 21) rfl ?_); refine goesL_ (some 91) rfl rfl Tryd.func21 (by kernel_rfl) rfl #[.slice Ao183 x14_61.length co183, .slice Ao184 x15_2.length co184] rfl (by (try simp only [List.map_toArray, List.map_cons, List.map_nil]); first | done | rfl | (simp only [List.length_drop, List.length_take]; rfl)) ?_; (with_reducible refine (customsref33_Compare.calls kj145 _ _ x14_61 _ _ x15_2 t915 t918 _ ?side1 ?side2 ?side3 ?side4 A159.out).mono ?_); (case side1 => repeat (first | exact (Kd.R_reads' HO_1.out).2.2 | (with_reducible refine Kd.C_alloc ?_ _) | (with_reducible refine Kd.C_drewN ?_ _) | (with_reducible refine Kd.C_drew ?_))); (case side2 => exact (Kd.R_reads' HO_1.out).2.1); (case side3 => repeat (first | exact (Kd.R_reads' HO_2.out).2.2 | (with_reducible refine Kd.C_alloc ?_ _) | (with_reducible refine Kd.C_drewN ?_ _) | (with_reducible refine Kd.C_drew ?_))); (case side4 => exact (Kd.R_reads' HO_2.out).2.1); rintro e w186 ⟨v916, v919, rfl, ho0, ho1, hb⟩; refine ⟨_, rfl, ?_⟩; have n0_ := Aside0.mk (Kd.R_below HO_1.out hb); have n1_ := Aside0.mk (Kd.R_below HO_2.out hb); have n2_ := Aside0.mk (Kd.R_below HO_13.out hb); have n3_ := Aside0.mk (Kd.R_below HO912.out hb); have n4_ := Aside0.mk (Kd.R_below HO914.out hb); have n5_ := Aside0.mk (Kd.V_lower (Kd.V_mono (ok' := fun k_ => some k_ ≠ (.slice Ao183 x14_61.length co183 : Value).ownBlock ∧ some k_ ≠ (.slice Ao184 x15_2.length co184 : Value).ownBlock ∧ some k_ ≠ (v872 : Value).ownBlock ∧ some k_ ≠ (v911 : Value).ownBlock ∧ some k_ ≠ (v913 : Value).ownBlock) ho0 (fun k_ hk_ => ⟨(Kd.fresh' (Kd.R_lt HO_1.out) k_ hk_), (Kd.fresh' (Kd.R_lt HO_2.out) k_ hk_), (Kd.fresh' (Kd.R_lt HO_13.out) k_ hk_), (Kd.fresh' (Kd.R_lt HO912.out) k_ hk_), (Kd.fresh' (Kd.R_lt HO914.out) k_ hk_)⟩)) (below_size HB.out)); have n6_ := Aside0.mk (Kd.V_lower (Kd.V_mono (ok' := fun k_ => some k_ ≠ (.slice Ao183 x14_61.length co183 : Value).ownBlock ∧ some k_ ≠ (.slice Ao184 x15_2.length co184 : Value).ownBlock ∧ some k_ ≠ (v872 : Value).ownBlock ∧ some k_ ≠ (v911 : Value).ownBlock ∧ some k_ ≠ (v913 : Value).ownBlock) ho1 (fun k_ hk_ => ⟨(Kd.fresh' (Kd.R_lt HO_1.out) k_ hk_), (Kd.fresh' (Kd.R_lt HO_2.out) k_ hk_), (Kd.fresh' (Kd.R_lt HO_13.out) k_ hk_), (Kd.fresh' (Kd.R_lt HO912.out) k_ hk_), (Kd.fresh' (Kd.R_lt HO914.out) k_ hk_)⟩)) (below_size HB.out)); have n7_ := Aside0.mk (below_step HB.out hb); clear HO_1; clear HO_2; clear HO_13; clear HO912; clear HO914; clear HB; have HO_1 := n0_; have HO_2 := n1_; have HO_13 := n2_; have HO912 := n3_; have HO914 := n4_; have HO917 := n5_; have HO920 := n6_; have HB := n7_; clear n0_ n1_ n2_ n3_ n4_ n5_ n6_ n7_; (try clear hb); (try clear hb2); (try clear hk); (try clear hi); (try clear ho0); (try clear ho1); obtain ⟨Ao187, co187, eo187⟩ := Kd.R_slice HO_13.out; subst eo187) | ((with_reducible refine gate_callee (f := 23) rfl ?_); refine goesL_ (some 97) rfl rfl Tryd.func23 (by kernel_rfl) rfl #[.slice Ao183 x14_61.length co183, .int .i64 (wrap64 (1 + t874)), .slice Ao187 t871.length co187] rfl (by (try simp only [List.map_toArray, List.map_cons, List.map_nil]); first | done | rfl | (simp only [List.length_drop, List.length_take]; rfl)) ?_; (with_reducible refine (transit_Seals.calls _ _ x14_61 (wrap64 (1 + t874)) _ _ t871 t921 _ ?side1 ?side2 ?side3 ?side4 A160.out).mono ?_); (case side1 => repeat (first | exact (Kd.R_reads' HO_1.out).2.2 | (with_reducible refine Kd.C_alloc ?_ _) | (with_reducible refine Kd.C_drewN ?_ _) | (with_reducible refine Kd.C_drew ?_))); (case side2 => exact (Kd.R_reads' HO_1.out).2.1); (case side3 => repeat (first | exact (Kd.R_reads' HO_13.out).2.2 | (with_reducible refine Kd.C_alloc ?_ _) | (with_reducible refine Kd.C_drewN ?_ _) | (with_reducible refine Kd.C_drew ?_))); (case side4 => exact (Kd.R_reads' HO_13.out).2.1); rintro e w188 ⟨v922, rfl, ho0, hb⟩; refine ⟨_, rfl, ?_⟩; have n0_ := Aside0.mk (Kd.R_elder' HO_1.out (Kd.R_base ho0) hb); have n1_ := Aside0.mk (Kd.R_elder' HO_2.out (Kd.R_base ho0) hb); have n2_ := Aside0.mk (Kd.R_below HO_13.out hb); have n3_ := Aside0.mk (Kd.R_elder' HO912.out (Kd.R_base ho0) hb); have n4_ := Aside0.mk (Kd.R_elder' HO914.out (Kd.R_base ho0) hb); have n5_ := Aside0.mk (Kd.V_elder' HO917.out (Kd.R_base ho0) hb); have n6_ := Aside0.mk (Kd.V_elder' HO920.out (Kd.R_base ho0) hb); have n7_ := Aside0.mk (Kd.R_lower (Kd.R_new' (Kd.R_new' (Kd.R_new' (Kd.R_new' ho0 (Kd.R_lt HO_1.out)) (Kd.R_lt HO_2.out)) (Kd.R_lt HO912.out)) (Kd.R_lt HO914.out)) (below_size HB.out)); have n8_ := Aside0.mk (below_step HB.out hb); clear HO_1; clear HO_2; clear HO_13; clear HO912; clear HO914; clear HO917; clear HO920; clear HB; have HO_1 := n0_; have HO_2 := n1_; have HO_13 := n2_; have HO912 := n3_; have HO914 := n4_; have HO917 := n5_; have HO920 := n6_; have HO923 := n7_; have HB := n8_; clear n0_ n1_ n2_ n3_ n4_ n5_ n6_ n7_ n8_; (try clear hb); (try clear hb2); (try clear hk); (try clear hi); (try clear ho0)) | ((with_reducible refine gate_callee (f := 24) rfl ?_); refine goesL_ (some 101) rfl rfl Tryd.func24 (by kernel_rfl) rfl #[.slice Ao183 x14_61.length co183, .int .i64 (wrap64 (1 + t874)), .slice Ao187 t871.length co187] rfl (by (try simp only [List.map_toArray, List.map_cons, List.map_nil]); first | done | rfl | (simp only [List.length_drop, List.length_take]; rfl)) ?_; (with_reducible refine (customsref33_Seals.calls kj145 _ _ x14_61 (wrap64 (1 + t874)) _ _ t871 t924 _ ?side1 ?side2 ?side3 ?side4 A161.out).mono ?_); (case side1 => repeat (first | exact (Kd.R_reads' HO_1.out).2.2 | (with_reducible refine Kd.C_alloc ?_ _) | (with_reducible refine Kd.C_drewN ?_ _) | (with_reducible refine Kd.C_drew ?_))); (case side2 => exact (Kd.R_reads' HO_1.out).2.1); (case side3 => repeat (first | exact (Kd.R_reads' HO_13.out).2.2 | (with_reducible refine Kd.C_alloc ?_ _) | (with_reducible refine Kd.C_drewN ?_ _) | (with_reducible refine Kd.C_drew ?_))); (case side4 => exact (Kd.R_reads' HO_13.out).2.1); rintro e w189 ⟨v925, rfl, ho0, hb⟩; refine ⟨_, rfl, ?_⟩; have n0_ := Aside0.mk (Kd.R_elder' HO_1.out (Kd.R_base ho0) hb); have n1_ := Aside0.mk (Kd.R_elder' HO_2.out (Kd.R_base ho0) hb); have n2_ := Aside0.mk (Kd.R_below HO_13.out hb); have n3_ := Aside0.mk (Kd.R_elder' HO912.out (Kd.R_base ho0) hb); have n4_ := Aside0.mk (Kd.R_elder' HO914.out (Kd.R_base ho0) hb); have n5_ := Aside0.mk (Kd.V_elder' HO917.out (Kd.R_base ho0) hb); have n6_ := Aside0.mk (Kd.V_elder' HO920.out (Kd.R_base ho0) hb); have n7_ := Aside0.mk (Kd.R_elder' HO923.out (Kd.R_base ho0) hb); have n8_ := Aside0.mk (Kd.R_lower (Kd.R_new' (Kd.R_new' (Kd.R_new' (Kd.R_new' (Kd.R_new' ho0 (Kd.R_lt HO_1.out)) (Kd.R_lt HO_2.out)) (Kd.R_lt HO912.out)) (Kd.R_lt HO914.out)) (Kd.R_lt HO923.out)) (below_size HB.out)); have n9_ := Aside0.mk (below_step HB.out hb); clear HO_1; clear HO_2; clear HO_13; clear HO912; clear HO914; clear HO917; clear HO920; clear HO923; clear HB; have HO_1 := n0_; have HO_2 := n1_; have HO_13 := n2_; have HO912 := n3_; have HO914 := n4_; have HO917 := n5_; have HO920 := n6_; have HO923 := n7_; have HO926 := n8_; have HB := n9_; clear n0_ n1_ n2_ n3_ n4_ n5_ n6_ n7_ n8_ n9_; (try clear hb); (try clear hb2); (try clear hk); (try clear hi); (try clear ho0); obtain ⟨Ao190, co190, eo190⟩ := Kd.R_slice HO923.out; subst eo190; obtain ⟨Ao191, co191, eo191⟩ := Kd.R_slice HO926.out; subst eo191) | ((with_reducible refine gate_callee (f := 22) rfl ?_); refine goesL_ (some 102) rfl rfl Tryd.func22 (by kernel_rfl) rfl #[.slice Ao190 t921.length co190, .slice Ao191 t924.length co191] rfl (by (try simp only [List.map_toArray, List.map_cons, List.map_nil]); first | done | rfl | (simp only [List.length_drop, List.length_take]; rfl)) ?_; (with_reducible refine (customsref33_SameInts.calls kj145 _ _ t921 _ _ t924 true _ ?side1 ?side2 ?side3 ?side4 A162.out).mono ?_); (case side1 => repeat (first | exact (Kd.R_reads' HO923.out).2.2 | (with_reducible refine Kd.C_alloc ?_ _) | (with_reducible refine Kd.C_drewN ?_ _) | (with_reducible refine Kd.C_drew ?_))); (case side2 => exact (Kd.R_reads' HO923.out).2.1); (case side3 => repeat (first | exact (Kd.R_reads' HO926.out).2.2 | (with_reducible refine Kd.C_alloc ?_ _) | (with_reducible refine Kd.C_drewN ?_ _) | (with_reducible refine Kd.C_drew ?_))); (case side4 => exact (Kd.R_reads' HO926.out).2.1); rintro e w' ⟨rfl, ⟨nd, rfl⟩⟩; refine ⟨_, rfl, ?_⟩; obtain ⟨Ao192, co192, eo192⟩ := Kd.R_slice HO912.out; subst eo192; obtain ⟨Ao193, co193, eo193⟩ := Kd.V_slice HO917.out; subst eo193) | (go_at_call 22; (with_reducible refine (customsref33_SameInts.calls kj145 _ _ t909 _ _ t915 true _ ?side1 ?side2 ?side3 ?side4 A164.out).mono ?_); (case side1 => repeat (first | exact (Kd.R_reads' HO912.out).2.2 | (with_reducible refine Kd.C_alloc ?_ _) | (with_reducible refine Kd.C_drewN ?_ _) | (with_reducible refine Kd.C_drew ?_))); (case side2 => exact (Kd.R_reads' HO912.out).2.1); (case side3 => repeat (first | exact (Kd.V_reads' HO917.out).2.2 | (with_reducible refine Kd.C_alloc ?_ _) | (with_reducible refine Kd.C_drewN ?_ _) | (with_reducible refine Kd.C_drew ?_))); (case side4 => exact (Kd.V_reads' HO917.out).2.1); rintro e w' ⟨rfl, ⟨nd, rfl⟩⟩; obtain ⟨Ao194, co194, eo194⟩ := Kd.R_slice HO914.out; subst eo194; obtain ⟨Ao195, co195, eo195⟩ := Kd.V_slice HO920.out; subst eo195) | (go_at_call 22; (with_reducible refine (customsref33_SameInts.calls kj145 _ _ t910 _ _ t918 false _ ?side1 ?side2 ?side3 ?side4 A166.out).mono ?_); (case side1 => repeat (first | exact (Kd.R_reads' HO914.out).2.2 | (with_reducible refine Kd.C_alloc ?_ _) | (with_reducible refine Kd.C_drewN ?_ _) | (with_reducible refine Kd.C_drew ?_))); (case side2 => exact (Kd.R_reads' HO914.out).2.1); (case side3 => repeat (first | exact (Kd.V_reads' HO920.out).2.2 | (with_reducible refine Kd.C_alloc ?_ _) | (with_reducible refine Kd.C_drewN ?_ _) | (with_reducible refine Kd.C_drew ?_))); (case side4 => exact (Kd.V_reads' HO920.out).2.1); rintro e w' ⟨rfl, ⟨nd, rfl⟩⟩))
             go_ret
             exact ⟨by first | rfl | (simp [errW_none, errW_some] <;> rfl) | (simp [*, errW_none, errW_some] <;> rfl), by repeat (first | (with_reducible first | exact HB.out | apply below_alloc | apply pw_below_drewN | apply below_drew1) | exact HB.out)⟩
           ·
            replace c165 := Bool.eq_false_iff.mpr c165
            subst c165
            have H1 : (some false) = some r := by rw [if_neg (show ¬ (false = true) by decide)] at H; exact H
            clear H
            have H := H1
            clear H1
            obtain rfl := Option.some.inj H
            obtain ⟨Ao196, co196, eo196⟩ := Kd.R_slice HO_1.out
            subst eo196
            obtain ⟨Ao197, co197, eo197⟩ := Kd.R_slice HO_2.out
            subst eo197
            go_wp2_with (first | ((with_reducible refine gate_callee (f := 20) rfl ?_); refine goesL_ (some 85) rfl rfl Tryd.func20 (by kernel_rfl) rfl #[.slice Ao196 x14_61.length co196, .slice Ao197 x15_2.length co197] rfl (by (try simp only [List.map_toArray, List.map_cons, List.map_nil]); first | done | rfl | (simp only [List.length_drop, List.length_take]; rfl)) ?_; (with_reducible refine (transit_Compare.calls _ _ x14_61 _ _ x15_2 t909 t910 _ ?side1 ?side2 ?side3 ?side4 A158.out).mono ?_); (case side1 => repeat (first | exact (Kd.R_reads' HO_1.out).2.2 | (with_reducible refine Kd.C_alloc ?_ _) | (with_reducible refine Kd.C_drewN ?_ _) | (with_reducible refine Kd.C_drew ?_))); (case side2 => exact (Kd.R_reads' HO_1.out).2.1); (case side3 => repeat (first | exact (Kd.R_reads' HO_2.out).2.2 | (with_reducible refine Kd.C_alloc ?_ _) | (with_reducible refine Kd.C_drewN ?_ _) | (with_reducible refine Kd.C_drew ?_))); (case side4 => exact (Kd.R_reads' HO_2.out).2.1); rintro e w198 ⟨v911, v913, rfl, ho0, ho1, hb⟩; refine ⟨_, rfl, ?_⟩; have n0_ := Aside0.mk (Kd.R_mono (Kd.R_told (Kd.R_told (Kd.R_old HO_1.out hb) (Kd.R_base ho0)) (Kd.R_base ho1)) (fun _ h_ => h_.1)); have n1_ := Aside0.mk (Kd.R_mono (Kd.R_told (Kd.R_told (Kd.R_old HO_2.out hb) (Kd.R_base ho0)) (Kd.R_base ho1)) (fun _ h_ => h_.1)); have n2_ := Aside0.mk (Kd.R_below HO_13.out hb); have n3_ := Aside0.mk (Kd.R_lower (Kd.R_new' (Kd.R_new' ho0 (Kd.R_lt HO_1.out)) (Kd.R_lt HO_2.out)) (below_size HB.out)); have n4_ := Aside0.mk (Kd.R_lower (Kd.R_new' (Kd.R_new' ho1 (Kd.R_lt HO_1.out)) (Kd.R_lt HO_2.out)) (below_size HB.out)); have n5_ := Aside0.mk (below_step HB.out hb); clear HO_1; clear HO_2; clear HO_13; clear HB; have HO_1 := n0_; have HO_2 := n1_; have HO_13 := n2_; have HO912 := n3_; have HO914 := n4_; have HB := n5_; clear n0_ n1_ n2_ n3_ n4_ n5_; (try clear hb); (try clear hb2); (try clear hk); (try clear hi); (try clear ho0); (try clear ho1)) | ((with_reducible refine gate_callee (f := 21) rfl ?_); refine goesL_ (some 91) rfl rfl Tryd.func21 (by kernel_rfl) rfl #[.slice Ao196 x14_61.length co196, .slice Ao197 x15_2.length co197] rfl (by (try simp only [List.map_toArray, List.map_cons, List.map_nil]); first | done | rfl | (simp only [List.length_drop, List.length_take]; rfl)) ?_; (with_reducible refine (customsref33_Compare.calls kj145 _ _ x14_61 _ _ x15_2 t915 t918 _ ?side1 ?side2 ?side3 ?side4 A159.out).mono ?_); (case side1 => repeat (first | exact (Kd.R_reads' HO_1.out).2.2 | (with_reducible refine Kd.C_alloc ?_ _) | (with_reducible refine Kd.C_drewN ?_ _) | (with_reducible refine Kd.C_drew ?_))); (case side2 => exact (Kd.R_reads' HO_1.out).2.1); (case side3 => repeat (first | exact (Kd.R_reads' HO_2.out).2.2 | (with_reducible refine Kd.C_alloc ?_ _) | (with_reducible refine Kd.C_drewN ?_ _) | (with_reducible refine Kd.C_drew ?_))); (case side4 => exact (Kd.R_reads' HO_2.out).2.1); rintro e w199 ⟨v916, v919, rfl, ho0, ho1, hb⟩; refine ⟨_, rfl, ?_⟩; have n0_ := Aside0.mk (Kd.R_below HO_1.out hb); have n1_ := Aside0.mk (Kd.R_below HO_2.out hb); have n2_ := Aside0.mk (Kd.R_below HO_13.out hb); have n3_ := Aside0.mk (Kd.R_below HO912.out hb); have n4_ := Aside0.mk (Kd.R_below HO914.out hb); have n5_ := Aside0.mk (Kd.V_lower (Kd.V_mono (ok' := fun k_ => some k_ ≠ (.slice Ao196 x14_61.length co196 : Value).ownBlock ∧ some k_ ≠ (.slice Ao197 x15_2.length co197 : Value).ownBlock ∧ some k_ ≠ (v872 : Value).ownBlock ∧ some k_ ≠ (v911 : Value).ownBlock ∧ some k_ ≠ (v913 : Value).ownBlock) ho0 (fun k_ hk_ => ⟨(Kd.fresh' (Kd.R_lt HO_1.out) k_ hk_), (Kd.fresh' (Kd.R_lt HO_2.out) k_ hk_), (Kd.fresh' (Kd.R_lt HO_13.out) k_ hk_), (Kd.fresh' (Kd.R_lt HO912.out) k_ hk_), (Kd.fresh' (Kd.R_lt HO914.out) k_ hk_)⟩)) (below_size HB.out)); have n6_ := Aside0.mk (Kd.V_lower (Kd.V_mono (ok' := fun k_ => some k_ ≠ (.slice Ao196 x14_61.length co196 : Value).ownBlock ∧ some k_ ≠ (.slice Ao197 x15_2.length co197 : Value).ownBlock ∧ some k_ ≠ (v872 : Value).ownBlock ∧ some k_ ≠ (v911 : Value).ownBlock ∧ some k_ ≠ (v913 : Value).ownBlock) ho1 (fun k_ hk_ => ⟨(Kd.fresh' (Kd.R_lt HO_1.out) k_ hk_), (Kd.fresh' (Kd.R_lt HO_2.out) k_ hk_), (Kd.fresh' (Kd.R_lt HO_13.out) k_ hk_), (Kd.fresh' (Kd.R_lt HO912.out) k_ hk_), (Kd.fresh' (Kd.R_lt HO914.out) k_ hk_)⟩)) (below_size HB.out)); have n7_ := Aside0.mk (below_step HB.out hb); clear HO_1; clear HO_2; clear HO_13; clear HO912; clear HO914; clear HB; have HO_1 := n0_; have HO_2 := n1_; have HO_13 := n2_; have HO912 := n3_; have HO914 := n4_; have HO917 := n5_; have HO920 := n6_; have HB := n7_; clear n0_ n1_ n2_ n3_ n4_ n5_ n6_ n7_; (try clear hb); (try clear hb2); (try clear hk); (try clear hi); (try clear ho0); (try clear ho1); obtain ⟨Ao200, co200, eo200⟩ := Kd.R_slice HO_13.out; subst eo200) | ((with_reducible refine gate_callee (f := 23) rfl ?_); refine goesL_ (some 97) rfl rfl Tryd.func23 (by kernel_rfl) rfl #[.slice Ao196 x14_61.length co196, .int .i64 (wrap64 (1 + t874)), .slice Ao200 t871.length co200] rfl (by (try simp only [List.map_toArray, List.map_cons, List.map_nil]); first | done | rfl | (simp only [List.length_drop, List.length_take]; rfl)) ?_; (with_reducible refine (transit_Seals.calls _ _ x14_61 (wrap64 (1 + t874)) _ _ t871 t921 _ ?side1 ?side2 ?side3 ?side4 A160.out).mono ?_); (case side1 => repeat (first | exact (Kd.R_reads' HO_1.out).2.2 | (with_reducible refine Kd.C_alloc ?_ _) | (with_reducible refine Kd.C_drewN ?_ _) | (with_reducible refine Kd.C_drew ?_))); (case side2 => exact (Kd.R_reads' HO_1.out).2.1); (case side3 => repeat (first | exact (Kd.R_reads' HO_13.out).2.2 | (with_reducible refine Kd.C_alloc ?_ _) | (with_reducible refine Kd.C_drewN ?_ _) | (with_reducible refine Kd.C_drew ?_))); (case side4 => exact (Kd.R_reads' HO_13.out).2.1); rintro e w201 ⟨v922, rfl, ho0, hb⟩; refine ⟨_, rfl, ?_⟩; have n0_ := Aside0.mk (Kd.R_elder' HO_1.out (Kd.R_base ho0) hb); have n1_ := Aside0.mk (Kd.R_elder' HO_2.out (Kd.R_base ho0) hb); have n2_ := Aside0.mk (Kd.R_below HO_13.out hb); have n3_ := Aside0.mk (Kd.R_elder' HO912.out (Kd.R_base ho0) hb); have n4_ := Aside0.mk (Kd.R_elder' HO914.out (Kd.R_base ho0) hb); have n5_ := Aside0.mk (Kd.V_elder' HO917.out (Kd.R_base ho0) hb); have n6_ := Aside0.mk (Kd.V_elder' HO920.out (Kd.R_base ho0) hb); have n7_ := Aside0.mk (Kd.R_lower (Kd.R_new' (Kd.R_new' (Kd.R_new' (Kd.R_new' ho0 (Kd.R_lt HO_1.out)) (Kd.R_lt HO_2.out)) (Kd.R_lt HO912.out)) (Kd.R_lt HO914.out)) (below_size HB.out)); have n8_ := Aside0.mk (below_step HB.out hb); clear HO_1; clear HO_2; clear HO_13; clear HO912; clear HO914; clear HO917; clear HO920; clear HB; have HO_1 := n0_; have HO_2 := n1_; have HO_13 := n2_; have HO912 := n3_; have HO914 := n4_; have HO917 := n5_; have HO920 := n6_; have HO923 := n7_; have HB := n8_; clear n0_ n1_ n2_ n3_ n4_ n5_ n6_ n7_ n8_; (try clear hb); (try clear hb2); (try clear hk); (try clear hi); (try clear ho0)) | ((with_reducible refine gate_callee (f := 24) rfl ?_); refine goesL_ (some 101) rfl rfl Tryd.func24 (by kernel_rfl) rfl #[.slice Ao196 x14_61.length co196, .int .i64 (wrap64 (1 + t874)), .slice Ao200 t871.length co200] rfl (by (try simp only [List.map_toArray, List.map_cons, List.map_nil]); first | done | rfl | (simp only [List.length_drop, List.length_take]; rfl)) ?_; (with_reducible refine (customsref33_Seals.calls kj145 _ _ x14_61 (wrap64 (1 + t874)) _ _ t871 t924 _ ?side1 ?side2 ?side3 ?side4 A161.out).mono ?_); (case side1 => repeat (first | exact (Kd.R_reads' HO_1.out).2.2 | (with_reducible refine Kd.C_alloc ?_ _) | (with_reducible refine Kd.C_drewN ?_ _) | (with_reducible refine Kd.C_drew ?_))); (case side2 => exact (Kd.R_reads' HO_1.out).2.1); (case side3 => repeat (first | exact (Kd.R_reads' HO_13.out).2.2 | (with_reducible refine Kd.C_alloc ?_ _) | (with_reducible refine Kd.C_drewN ?_ _) | (with_reducible refine Kd.C_drew ?_))); (case side4 => exact (Kd.R_reads' HO_13.out).2.1); rintro e w202 ⟨v925, rfl, ho0, hb⟩; refine ⟨_, rfl, ?_⟩; have n0_ := Aside0.mk (Kd.R_elder' HO_1.out (Kd.R_base ho0) hb); have n1_ := Aside0.mk (Kd.R_elder' HO_2.out (Kd.R_base ho0) hb); have n2_ := Aside0.mk (Kd.R_below HO_13.out hb); have n3_ := Aside0.mk (Kd.R_elder' HO912.out (Kd.R_base ho0) hb); have n4_ := Aside0.mk (Kd.R_elder' HO914.out (Kd.R_base ho0) hb); have n5_ := Aside0.mk (Kd.V_elder' HO917.out (Kd.R_base ho0) hb); have n6_ := Aside0.mk (Kd.V_elder' HO920.out (Kd.R_base ho0) hb); have n7_ := Aside0.mk (Kd.R_elder' HO923.out (Kd.R_base ho0) hb); have n8_ := Aside0.mk (Kd.R_lower (Kd.R_new' (Kd.R_new' (Kd.R_new' (Kd.R_new' (Kd.R_new' ho0 (Kd.R_lt HO_1.out)) (Kd.R_lt HO_2.out)) (Kd.R_lt HO912.out)) (Kd.R_lt HO914.out)) (Kd.R_lt HO923.out)) (below_size HB.out)); have n9_ := Aside0.mk (below_step HB.out hb); clear HO_1; clear HO_2; clear HO_13; clear HO912; clear HO914; clear HO917; clear HO920; clear HO923; clear HB; have HO_1 := n0_; have HO_2 := n1_; have HO_13 := n2_; have HO912 := n3_; have HO914 := n4_; have HO917 := n5_; have HO920 := n6_; have HO923 := n7_; have HO926 := n8_; have HB := n9_; clear n0_ n1_ n2_ n3_ n4_ n5_ n6_ n7_ n8_ n9_; (try clear hb); (try clear hb2); (try clear hk); (try clear hi); (try clear ho0); obtain ⟨Ao203, co203, eo203⟩ := Kd.R_slice HO923.out; subst eo203; obtain ⟨Ao204, co204, eo204⟩ := Kd.R_slice HO926.out; subst eo204) | ((with_reducible refine gate_callee (f := 22) rfl ?_); refine goesL_ (some 102) rfl rfl Tryd.func22 (by kernel_rfl) rfl #[.slice Ao203 t921.length co203, .slice Ao204 t924.length co204] rfl (by (try simp only [List.map_toArray, List.map_cons, List.map_nil]); first | done | rfl | (simp only [List.length_drop, List.length_take]; rfl)) ?_; (with_reducible refine (customsref33_SameInts.calls kj145 _ _ t921 _ _ t924 true _ ?side1 ?side2 ?side3 ?side4 A162.out).mono ?_); (case side1 => repeat (first | exact (Kd.R_reads' HO923.out).2.2 | (with_reducible refine Kd.C_alloc ?_ _) | (with_reducible refine Kd.C_drewN ?_ _) | (with_reducible refine Kd.C_drew ?_))); (case side2 => exact (Kd.R_reads' HO923.out).2.1); (case side3 => repeat (first | exact (Kd.R_reads' HO926.out).2.2 | (with_reducible refine Kd.C_alloc ?_ _) | (with_reducible refine Kd.C_drewN ?_ _) | (with_reducible refine Kd.C_drew ?_))); (case side4 => exact (Kd.R_reads' HO926.out).2.1); rintro e w' ⟨rfl, ⟨nd, rfl⟩⟩; refine ⟨_, rfl, ?_⟩; obtain ⟨Ao205, co205, eo205⟩ := Kd.R_slice HO912.out; subst eo205; obtain ⟨Ao206, co206, eo206⟩ := Kd.V_slice HO917.out; subst eo206) | (go_at_call 22; (with_reducible refine (customsref33_SameInts.calls kj145 _ _ t909 _ _ t915 false _ ?side1 ?side2 ?side3 ?side4 A164.out).mono ?_); (case side1 => repeat (first | exact (Kd.R_reads' HO912.out).2.2 | (with_reducible refine Kd.C_alloc ?_ _) | (with_reducible refine Kd.C_drewN ?_ _) | (with_reducible refine Kd.C_drew ?_))); (case side2 => exact (Kd.R_reads' HO912.out).2.1); (case side3 => repeat (first | exact (Kd.V_reads' HO917.out).2.2 | (with_reducible refine Kd.C_alloc ?_ _) | (with_reducible refine Kd.C_drewN ?_ _) | (with_reducible refine Kd.C_drew ?_))); (case side4 => exact (Kd.V_reads' HO917.out).2.1); rintro e w' ⟨rfl, ⟨nd, rfl⟩⟩))
            go_ret
            exact ⟨by first | rfl | (simp [errW_none, errW_some] <;> rfl) | (simp [*, errW_none, errW_some] <;> rfl), by repeat (first | (with_reducible first | exact HB.out | apply below_alloc | apply pw_below_drewN | apply below_drew1) | exact HB.out)⟩
          ·
           replace c163 := Bool.eq_false_iff.mpr c163
           subst c163
           have H1 : (some false) = some r := by rw [if_neg (show ¬ (false = true) by decide)] at H; exact H
           clear H
           have H := H1
           clear H1
           obtain rfl := Option.some.inj H
           obtain ⟨Ao207, co207, eo207⟩ := Kd.R_slice HO_1.out
           subst eo207
           obtain ⟨Ao208, co208, eo208⟩ := Kd.R_slice HO_2.out
           subst eo208
           go_wp2_with (first | ((with_reducible refine gate_callee (f := 20) rfl ?_); refine goesL_ (some 85) rfl rfl Tryd.func20 (by kernel_rfl) rfl #[.slice Ao207 x14_61.length co207, .slice Ao208 x15_2.length co208] rfl (by (try simp only [List.map_toArray, List.map_cons, List.map_nil]); first | done | rfl | (simp only [List.length_drop, List.length_take]; rfl)) ?_; (with_reducible refine (transit_Compare.calls _ _ x14_61 _ _ x15_2 t909 t910 _ ?side1 ?side2 ?side3 ?side4 A158.out).mono ?_); (case side1 => repeat (first | exact (Kd.R_reads' HO_1.out).2.2 | (with_reducible refine Kd.C_alloc ?_ _) | (with_reducible refine Kd.C_drewN ?_ _) | (with_reducible refine Kd.C_drew ?_))); (case side2 => exact (Kd.R_reads' HO_1.out).2.1); (case side3 => repeat (first | exact (Kd.R_reads' HO_2.out).2.2 | (with_reducible refine Kd.C_alloc ?_ _) | (with_reducible refine Kd.C_drewN ?_ _) | (with_reducible refine Kd.C_drew ?_))); (case side4 => exact (Kd.R_reads' HO_2.out).2.1); rintro e w209 ⟨v911, v913, rfl, ho0, ho1, hb⟩; refine ⟨_, rfl, ?_⟩; have n0_ := Aside0.mk (Kd.R_mono (Kd.R_told (Kd.R_told (Kd.R_old HO_1.out hb) (Kd.R_base ho0)) (Kd.R_base ho1)) (fun _ h_ => h_.1)); have n1_ := Aside0.mk (Kd.R_mono (Kd.R_told (Kd.R_told (Kd.R_old HO_2.out hb) (Kd.R_base ho0)) (Kd.R_base ho1)) (fun _ h_ => h_.1)); have n2_ := Aside0.mk (Kd.R_below HO_13.out hb); have n3_ := Aside0.mk (Kd.R_lower (Kd.R_new' (Kd.R_new' ho0 (Kd.R_lt HO_1.out)) (Kd.R_lt HO_2.out)) (below_size HB.out)); have n4_ := Aside0.mk (Kd.R_lower (Kd.R_new' (Kd.R_new' ho1 (Kd.R_lt HO_1.out)) (Kd.R_lt HO_2.out)) (below_size HB.out)); have n5_ := Aside0.mk (below_step HB.out hb); clear HO_1; clear HO_2; clear HO_13; clear HB; have HO_1 := n0_; have HO_2 := n1_; have HO_13 := n2_; have HO912 := n3_; have HO914 := n4_; have HB := n5_; clear n0_ n1_ n2_ n3_ n4_ n5_; (try clear hb); (try clear hb2); (try clear hk); (try clear hi); (try clear ho0); (try clear ho1)) | ((with_reducible refine gate_callee (f := 21) rfl ?_); refine goesL_ (some 91) rfl rfl Tryd.func21 (by kernel_rfl) rfl #[.slice Ao207 x14_61.length co207, .slice Ao208 x15_2.length co208] rfl (by (try simp only [List.map_toArray, List.map_cons, List.map_nil]); first | done | rfl | (simp only [List.length_drop, List.length_take]; rfl)) ?_; (with_reducible refine (customsref33_Compare.calls kj145 _ _ x14_61 _ _ x15_2 t915 t918 _ ?side1 ?side2 ?side3 ?side4 A159.out).mono ?_); (case side1 => repeat (first | exact (Kd.R_reads' HO_1.out).2.2 | (with_reducible refine Kd.C_alloc ?_ _) | (with_reducible refine Kd.C_drewN ?_ _) | (with_reducible refine Kd.C_drew ?_))); (case side2 => exact (Kd.R_reads' HO_1.out).2.1); (case side3 => repeat (first | exact (Kd.R_reads' HO_2.out).2.2 | (with_reducible refine Kd.C_alloc ?_ _) | (with_reducible refine Kd.C_drewN ?_ _) | (with_reducible refine Kd.C_drew ?_))); (case side4 => exact (Kd.R_reads' HO_2.out).2.1); rintro e w210 ⟨v916, v919, rfl, ho0, ho1, hb⟩; refine ⟨_, rfl, ?_⟩; have n0_ := Aside0.mk (Kd.R_below HO_1.out hb); have n1_ := Aside0.mk (Kd.R_below HO_2.out hb); have n2_ := Aside0.mk (Kd.R_below HO_13.out hb); have n3_ := Aside0.mk (Kd.R_below HO912.out hb); have n4_ := Aside0.mk (Kd.R_below HO914.out hb); have n5_ := Aside0.mk (Kd.V_lower (Kd.V_mono (ok' := fun k_ => some k_ ≠ (.slice Ao207 x14_61.length co207 : Value).ownBlock ∧ some k_ ≠ (.slice Ao208 x15_2.length co208 : Value).ownBlock ∧ some k_ ≠ (v872 : Value).ownBlock ∧ some k_ ≠ (v911 : Value).ownBlock ∧ some k_ ≠ (v913 : Value).ownBlock) ho0 (fun k_ hk_ => ⟨(Kd.fresh' (Kd.R_lt HO_1.out) k_ hk_), (Kd.fresh' (Kd.R_lt HO_2.out) k_ hk_), (Kd.fresh' (Kd.R_lt HO_13.out) k_ hk_), (Kd.fresh' (Kd.R_lt HO912.out) k_ hk_), (Kd.fresh' (Kd.R_lt HO914.out) k_ hk_)⟩)) (below_size HB.out)); have n6_ := Aside0.mk (Kd.V_lower (Kd.V_mono (ok' := fun k_ => some k_ ≠ (.slice Ao207 x14_61.length co207 : Value).ownBlock ∧ some k_ ≠ (.slice Ao208 x15_2.length co208 : Value).ownBlock ∧ some k_ ≠ (v872 : Value).ownBlock ∧ some k_ ≠ (v911 : Value).ownBlock ∧ some k_ ≠ (v913 : Value).ownBlock) ho1 (fun k_ hk_ => ⟨(Kd.fresh' (Kd.R_lt HO_1.out) k_ hk_), (Kd.fresh' (Kd.R_lt HO_2.out) k_ hk_), (Kd.fresh' (Kd.R_lt HO_13.out) k_ hk_), (Kd.fresh' (Kd.R_lt HO912.out) k_ hk_), (Kd.fresh' (Kd.R_lt HO914.out) k_ hk_)⟩)) (below_size HB.out)); have n7_ := Aside0.mk (below_step HB.out hb); clear HO_1; clear HO_2; clear HO_13; clear HO912; clear HO914; clear HB; have HO_1 := n0_; have HO_2 := n1_; have HO_13 := n2_; have HO912 := n3_; have HO914 := n4_; have HO917 := n5_; have HO920 := n6_; have HB := n7_; clear n0_ n1_ n2_ n3_ n4_ n5_ n6_ n7_; (try clear hb); (try clear hb2); (try clear hk); (try clear hi); (try clear ho0); (try clear ho1); obtain ⟨Ao211, co211, eo211⟩ := Kd.R_slice HO_13.out; subst eo211) | ((with_reducible refine gate_callee (f := 23) rfl ?_); refine goesL_ (some 97) rfl rfl Tryd.func23 (by kernel_rfl) rfl #[.slice Ao207 x14_61.length co207, .int .i64 (wrap64 (1 + t874)), .slice Ao211 t871.length co211] rfl (by (try simp only [List.map_toArray, List.map_cons, List.map_nil]); first | done | rfl | (simp only [List.length_drop, List.length_take]; rfl)) ?_; (with_reducible refine (transit_Seals.calls _ _ x14_61 (wrap64 (1 + t874)) _ _ t871 t921 _ ?side1 ?side2 ?side3 ?side4 A160.out).mono ?_); (case side1 => repeat (first | exact (Kd.R_reads' HO_1.out).2.2 | (with_reducible refine Kd.C_alloc ?_ _) | (with_reducible refine Kd.C_drewN ?_ _) | (with_reducible refine Kd.C_drew ?_))); (case side2 => exact (Kd.R_reads' HO_1.out).2.1); (case side3 => repeat (first | exact (Kd.R_reads' HO_13.out).2.2 | (with_reducible refine Kd.C_alloc ?_ _) | (with_reducible refine Kd.C_drewN ?_ _) | (with_reducible refine Kd.C_drew ?_))); (case side4 => exact (Kd.R_reads' HO_13.out).2.1); rintro e w212 ⟨v922, rfl, ho0, hb⟩; refine ⟨_, rfl, ?_⟩; have n0_ := Aside0.mk (Kd.R_elder' HO_1.out (Kd.R_base ho0) hb); have n1_ := Aside0.mk (Kd.R_elder' HO_2.out (Kd.R_base ho0) hb); have n2_ := Aside0.mk (Kd.R_below HO_13.out hb); have n3_ := Aside0.mk (Kd.R_elder' HO912.out (Kd.R_base ho0) hb); have n4_ := Aside0.mk (Kd.R_elder' HO914.out (Kd.R_base ho0) hb); have n5_ := Aside0.mk (Kd.V_elder' HO917.out (Kd.R_base ho0) hb); have n6_ := Aside0.mk (Kd.V_elder' HO920.out (Kd.R_base ho0) hb); have n7_ := Aside0.mk (Kd.R_lower (Kd.R_new' (Kd.R_new' (Kd.R_new' (Kd.R_new' ho0 (Kd.R_lt HO_1.out)) (Kd.R_lt HO_2.out)) (Kd.R_lt HO912.out)) (Kd.R_lt HO914.out)) (below_size HB.out)); have n8_ := Aside0.mk (below_step HB.out hb); clear HO_1; clear HO_2; clear HO_13; clear HO912; clear HO914; clear HO917; clear HO920; clear HB; have HO_1 := n0_; have HO_2 := n1_; have HO_13 := n2_; have HO912 := n3_; have HO914 := n4_; have HO917 := n5_; have HO920 := n6_; have HO923 := n7_; have HB := n8_; clear n0_ n1_ n2_ n3_ n4_ n5_ n6_ n7_ n8_; (try clear hb); (try clear hb2); (try clear hk); (try clear hi); (try clear ho0)) | ((with_reducible refine gate_callee (f := 24) rfl ?_); refine goesL_ (some 101) rfl rfl Tryd.func24 (by kernel_rfl) rfl #[.slice Ao207 x14_61.length co207, .int .i64 (wrap64 (1 + t874)), .slice Ao211 t871.length co211] rfl (by (try simp only [List.map_toArray, List.map_cons, List.map_nil]); first | done | rfl | (simp only [List.length_drop, List.length_take]; rfl)) ?_; (with_reducible refine (customsref33_Seals.calls kj145 _ _ x14_61 (wrap64 (1 + t874)) _ _ t871 t924 _ ?side1 ?side2 ?side3 ?side4 A161.out).mono ?_); (case side1 => repeat (first | exact (Kd.R_reads' HO_1.out).2.2 | (with_reducible refine Kd.C_alloc ?_ _) | (with_reducible refine Kd.C_drewN ?_ _) | (with_reducible refine Kd.C_drew ?_))); (case side2 => exact (Kd.R_reads' HO_1.out).2.1); (case side3 => repeat (first | exact (Kd.R_reads' HO_13.out).2.2 | (with_reducible refine Kd.C_alloc ?_ _) | (with_reducible refine Kd.C_drewN ?_ _) | (with_reducible refine Kd.C_drew ?_))); (case side4 => exact (Kd.R_reads' HO_13.out).2.1); rintro e w213 ⟨v925, rfl, ho0, hb⟩; refine ⟨_, rfl, ?_⟩; have n0_ := Aside0.mk (Kd.R_elder' HO_1.out (Kd.R_base ho0) hb); have n1_ := Aside0.mk (Kd.R_elder' HO_2.out (Kd.R_base ho0) hb); have n2_ := Aside0.mk (Kd.R_below HO_13.out hb); have n3_ := Aside0.mk (Kd.R_elder' HO912.out (Kd.R_base ho0) hb); have n4_ := Aside0.mk (Kd.R_elder' HO914.out (Kd.R_base ho0) hb); have n5_ := Aside0.mk (Kd.V_elder' HO917.out (Kd.R_base ho0) hb); have n6_ := Aside0.mk (Kd.V_elder' HO920.out (Kd.R_base ho0) hb); have n7_ := Aside0.mk (Kd.R_elder' HO923.out (Kd.R_base ho0) hb); have n8_ := Aside0.mk (Kd.R_lower (Kd.R_new' (Kd.R_new' (Kd.R_new' (Kd.R_new' (Kd.R_new' ho0 (Kd.R_lt HO_1.out)) (Kd.R_lt HO_2.out)) (Kd.R_lt HO912.out)) (Kd.R_lt HO914.out)) (Kd.R_lt HO923.out)) (below_size HB.out)); have n9_ := Aside0.mk (below_step HB.out hb); clear HO_1; clear HO_2; clear HO_13; clear HO912; clear HO914; clear HO917; clear HO920; clear HO923; clear HB; have HO_1 := n0_; have HO_2 := n1_; have HO_13 := n2_; have HO912 := n3_; have HO914 := n4_; have HO917 := n5_; have HO920 := n6_; have HO923 := n7_; have HO926 := n8_; have HB := n9_; clear n0_ n1_ n2_ n3_ n4_ n5_ n6_ n7_ n8_ n9_; (try clear hb); (try clear hb2); (try clear hk); (try clear hi); (try clear ho0); obtain ⟨Ao214, co214, eo214⟩ := Kd.R_slice HO923.out; subst eo214; obtain ⟨Ao215, co215, eo215⟩ := Kd.R_slice HO926.out; subst eo215) | ((with_reducible refine gate_callee (f := 22) rfl ?_); refine goesL_ (some 102) rfl rfl Tryd.func22 (by kernel_rfl) rfl #[.slice Ao214 t921.length co214, .slice Ao215 t924.length co215] rfl (by (try simp only [List.map_toArray, List.map_cons, List.map_nil]); first | done | rfl | (simp only [List.length_drop, List.length_take]; rfl)) ?_; (with_reducible refine (customsref33_SameInts.calls kj145 _ _ t921 _ _ t924 false _ ?side1 ?side2 ?side3 ?side4 A162.out).mono ?_); (case side1 => repeat (first | exact (Kd.R_reads' HO923.out).2.2 | (with_reducible refine Kd.C_alloc ?_ _) | (with_reducible refine Kd.C_drewN ?_ _) | (with_reducible refine Kd.C_drew ?_))); (case side2 => exact (Kd.R_reads' HO923.out).2.1); (case side3 => repeat (first | exact (Kd.R_reads' HO926.out).2.2 | (with_reducible refine Kd.C_alloc ?_ _) | (with_reducible refine Kd.C_drewN ?_ _) | (with_reducible refine Kd.C_drew ?_))); (case side4 => exact (Kd.R_reads' HO926.out).2.1); rintro e w' ⟨rfl, ⟨nd, rfl⟩⟩; refine ⟨_, rfl, ?_⟩))
           go_ret
           exact ⟨by first | rfl | (simp [errW_none, errW_some] <;> rfl) | (simp [*, errW_none, errW_some] <;> rfl), by repeat (first | (with_reducible first | exact HB.out | apply below_alloc | apply pw_below_drewN | apply below_drew1) | exact HB.out)⟩

end Go.Proofs.YtbndoihcejieoaaDoor.G
