/-
  Functions of the program and of the references as plain Lean functions, each with a proof that the machine's call comes to what it answers. Conditions: what each contract states.
-/
import Derived.Test.YtbndoihcejieoaaDoorQCorew1
import Derived.Test.YtbndoihcejieoaaDoorQCorev1
import Derived.Test.YtbndoihcejieoaaDoorQCorea1
namespace Go.Proofs.YtbndoihcejieoaaDoor.G
open Go.RowKit Go.Proofs.YtbndoihcejieoaaDoorW.PrintWords Go.Proofs.YtbndoihcejieoaaDoorW.PrintLast Go.Proofs.YtbndoihcejieoaaDoorW.PrintMore
attribute [local go_sem] max2_int min2_int max_two min_two max_three min_three max_four min_four   -- for this text's walks alone
set_option linter.unusedVariables false
set_option linter.unusedSimpArgs false

set_option maxHeartbeats 4000000 in
set_option maxRecDepth 100000 in
theorem forth_calls (t : Tr) (vd v8 v9 v10 vf vb : Value) (x : Int) (l : List Int) (B : Nat) (P Q : Nat → Prop) (w : World) (hPQ : ∀ i, P i → Q i) (hQ : ∀ i, Q i → i < w.heap.size) (hd : RdK (Kd.int .i64) Q w vd t.d.s) (hs : t.d.s.length < 5000000000000) (ha : t.a.RdK Q w v8 v9 v10) (hA : t.a.Fits)
  (hf : RdK (Kd.int .i64) Q w vf (x :: l)) (hR : Kd.R (Kd.int .i64) 3 w B P vb t.b) (hl : t.b.length < 5000000000000) (hB : B ≤ w.heap.size) (hG : GL_changes w) :
  Calls Tryd.prog 48 #[.agg (tf (t.d.c vd) (t.a.c v8 v9 v10) vf vb)] w fun e w' => ∃ u8 u9 u10 vf' vb' : Value, e = .returned (.agg (tf (t.d.c vd) ((forthT t x l).a.c u8 u9 u10) vf' vb')) ∧ (forthT t x l).a.RdK Q w' u8 u9 u10 ∧ RdK (Kd.int .i64) Q w' vd t.d.s ∧ RdK (Kd.int .i64) Q w' vf' l ∧ Kd.R (Kd.int .i64) 3 w' B (fun k => P k ∨ w.heap.size ≤ k) vb' (forthT t x l).b ∧ Mv P w w' := by
 obtain ⟨A, c, rfl, hc, hr⟩ := hf.now
 obtain ⟨ad, rfl, _⟩ := Kd.at_int hr 0 (by omega) (by simp)
 have HD := Aside0.mk hd
 have HA := Aside0.mk ha
 have HAF := Aside0.mk hA
 have HS := Aside0.mk hs
 have HR := Aside0.mk hR
 have HL := Aside0.mk hl
 have HBB := Aside0.mk hB
 have HPQ := Aside0.mk hPQ
 have HQ := Aside0.mk hQ
 have HP := Aside0.mk (fun i hi => hQ i (hPQ i hi))
 have HG := Aside0.mk hG
 have HC := Aside0.mk (show Kd.C (Kd.int .i64) w (some ad) (l.length + 1) (x :: l) from hr)
 have hle : l.length + 1 ≤ c := hc
 obtain ⟨vc, hvc⟩ : ∃ vc, vc = cutV ad c l.length := ⟨_, rfl⟩
 have HCR : Aside0 (RdK (Kd.int .i64) Q w vc l) := ⟨by rw [hvc]; exact cut_rdk hf⟩
 have HO := Aside0.mk HCR.out.now.one
 have HVC := Aside0.mk hvc
 clear hd ha hA hs hf hR hl hB hPQ hQ hG hc hr hvc
 have hu40 := Tryd.underlying40
 have hu38 := Tryd.underlying38
 have hu27 := Tryd.underlying27
 have hu24 := Tryd.underlying24
 show Calls Tryd.prog 48 #[.agg (tf (t.d.c vd) (t.a.c v8 v9 v10) (.slice (some ad) (l.length + 1) c) vb)] w _
 by_cases c1 : x = 1
 ·
  subst c1
  have hb1 : (forthT t 1 l).b = (if (annA t.a t.d.a0 t.d.a1 t.d.s).2 = true ∧ (annA t.a t.d.a0 t.d.a1 t.d.s).1.b3 = 3 then t.b ++ [3] else t.b) := by rw [show forthT t 1 l = metT { t with f := l } (annA t.a t.d.a0 t.d.a1 t.d.s).1 (annA t.a t.d.a0 t.d.a1 t.d.s).2 from if_pos rfl]; rfl
  rw [show (forthT t 1 l).a = (annA t.a t.d.a0 t.d.a1 t.d.s).1 from by rw [show forthT t 1 l = metT { t with f := l } (annA t.a t.d.a0 t.d.a1 t.d.s).1 (annA t.a t.d.a0 t.d.a1 t.d.s).2 from if_pos rfl]; rfl]
  generalize (forthT t 1 l).b = bb at hb1 ⊢
  have HBq := Aside0.mk hb1
  clear hb1
  go_enter Tryd.func48, Tryd.ntmps48
  go_wp2_with (first
   | ((with_reducible refine gate_dst (N := 1) rfl ?_); refine box_event rfl (N := 1) rfl (cs := tf (t.d.c vd) (t.a.c v8 v9 v10) (.slice (some ad) (l.length + 1) c) vb) (t := 40) ?hr ?_; (case hr => first | (go_simp; done) | (go_simp; rfl)); intro g hg w1 h1 b1; have G1 := Aside0.mk (And.intro hg (And.intro h1 b1)); clear hg h1 b1)
   | ((with_reducible refine gate_dst (N := 2) rfl ?_); refine box_event rfl (N := 2) rfl (cs := zero24) (t := 40) ?hr ?_; (case hr => first | (go_simp; done) | (go_simp; rfl)); intro gr hg w2 h1 b1; have L := Aside0.mk (Lo.start G1.out.1 G1.out.2.1 G1.out.2.2 hg h1 (zero24_size.trans (tf_size (t.d.elf HD.out.now.one) (t.a.elf HA.out.now.r8.one HA.out.now.r9.one HA.out.now.r10.one)).symm) b1 (fun _ => False)); have hc22 := cell_f L.out.at1 (t.d.elf HD.out.now.one) (t.a.elf HA.out.now.r8.one HA.out.now.r9.one HA.out.now.r10.one); have hc0 := first_cell HC.out (L.out.mv0.below (Nat.le_refl _) (fun _ hk => hk.elim)); clear hg h1 b1 G1)
   | ((with_reducible refine gate_dst (N := 14) rfl ?_); refine Kd.event_run rfl (v := vc) (w1 := w2) (exec_cut rfl rfl HVC.out) ?_)
   | ((with_reducible refine gate_store (t := 25) (p := 15) rfl ?_); refine ev_store rfl (ty := 25) (p := 15) rfl rfl (q := .pointer (some ⟨g, 22, none⟩)) (v := vc) rfl rfl (store_f L.out.at1 (t.d.elf HD.out.now.one) (t.a.elf HA.out.now.r8.one HA.out.now.r9.one HA.out.now.r10.one) HO.out) ?_; intro w3 hF; have L3 := Aside0.mk (L.out.same hF.1 ((tf_size (t.d.elf HD.out.now.one) (t.a.elf HA.out.now.r8.one HA.out.now.r9.one HA.out.now.r10.one)).trans (tf_size (t.d.elf HD.out.now.one) (t.a.elf HA.out.now.r8.one HA.out.now.r9.one HA.out.now.r10.one)).symm) hF.2); have hc30 : w3.cell? ⟨g, 0, none⟩ = some (.int .i64 t.d.a0) := cell_dep L3.out.at1 (t.d.elf HD.out.now.one) (by decide) rfl; have hc31 : w3.cell? ⟨g, 1, none⟩ = some (.int .i64 t.d.a1) := cell_dep L3.out.at1 (t.d.elf HD.out.now.one) (by decide) rfl; have hc32 : w3.cell? ⟨g, 10, none⟩ = some (vd) := cell_dep L3.out.at1 (t.d.elf HD.out.now.one) (by decide) rfl; clear hF L hc22 hc0)
   | ((with_reducible refine gate_dst (N := 21) rfl ?_); refine ev_load rfl (N := 21) rfl rfl (q := .pointer (some ⟨g, 11, none⟩)) (v := .agg (t.a.c v8 v9 v10)) rfl (load_arr L3.out.at1 (t.d.elf HD.out.now.one) (t.a.elf HA.out.now.r8.one HA.out.now.r9.one HA.out.now.r10.one)) ?_)
   | (go_at_call 9; refine (announce_w t.a t.d.a0 t.d.a1 t.d.s (HA.out.now.below (L3.out.mv0.below (Nat.le_refl _) (fun _ hk => hk.elim))) HAF.out (HD.out.now.below (L3.out.mv0.below (Nat.le_refl _) (fun _ hk => hk.elim))) HS.out (HG.out.of_below (L3.out.mv0.below (Nat.le_refl _) (fun _ hk => hk.elim)))).mono ?_; rintro _ w4 ⟨u8, u9, u10, rfl, ho, hb⟩; have U4 := Aside0.mk ho; have L4 := Aside0.mk (L3.out.below hb); have HW := Aside0.mk (show w.heap.size ≤ w4.heap.size from Nat.le_trans L3.out.kept.1 hb.size); have K4 := Aside0.mk (ho.rdk (P := fun k => Q k ∨ k = g ∨ k = gr ∨ w4.heap.size ≤ k) (fun i hi => by have h1 := blk_lt L3.out.at1; have h2 := blk_lt L3.out.at2.choose_spec.2; have h3 := L3.out.kept.1; rcases hi with hi | hi | hi | hi; (have := HQ.out i hi; omega); omega; omega; exact .inr hi)); clear ho hb L3 hc30 hc31 hc32)
   | ((with_reducible refine gate_dst (N := 4) rfl ?_); refine box_event rfl (N := 4) rfl (cs := #[.int .i64 0, .int .i64 0, .int .i64 0, .int .i64 0, .int .i64 0, .string (⟨#[]⟩ : ByteArray), .int .i64 0, .int .i64 0, .slice none 0 0, .slice none 0 0, .slice none 0 0]) (t := 27) ?hr ?_; (case hr => first | (go_simp; done) | (go_simp; rfl)); intro g3 hg w5 h1 b1; have L5 := Aside0.mk (L4.out.below b1); have A5 := Aside0.mk h1; have N5 := Aside0.mk (show g3 ≠ g ∧ g3 ≠ gr ∧ g3 = w4.heap.size from ⟨by have := blk_lt L4.out.at1; omega, by have := blk_lt L4.out.at2.choose_spec.2; omega, hg⟩); have M5 := Aside0.mk (Mv.of_below b1 (fun k => Q k ∨ k = g ∨ k = gr ∨ w4.heap.size ≤ k)); clear hg h1 b1 L4)
   | ((with_reducible refine gate_store (t := 27) (p := 4) rfl ?_); refine ev_store rfl (ty := 27) (p := 4) rfl rfl (q := .pointer (some ⟨g3, 0, none⟩)) (v := .agg ((annA t.a t.d.a0 t.d.a1 t.d.s).1.c u8 u9 u10)) rfl rfl (store_eleven (by kernel_rfl) A5.out rfl ((annA t.a t.d.a0 t.d.a1 t.d.s).1.elf (rone U4.out.r8) (rone U4.out.r9) (rone U4.out.r10))) ?_; intro w6 hF; have L6 := Aside0.mk (L5.out.mv (Mv.same (fun k => k = g3) rfl hF.2) (fun k hk => by rw [hk]; exact ⟨.inr (by rw [N5.out.2.2]; exact HW.out), N5.out.1, N5.out.2.1⟩)); have A6 := Aside0.mk hF.1; have M6 := Aside0.mk (M5.out.then_ (Mv.same (fun k => k = g3) rfl hF.2) (fun k hk => .inl (.inr (.inr (.inr (by rw [hk, N5.out.2.2]; exact Nat.le_refl _)))))); clear hF L5 A5 M5)
   | ((with_reducible refine gate_dst (N := 35) rfl ?_); refine ev_load rfl (N := 35) rfl rfl (q := .pointer (some ⟨g, 0, none⟩)) (v := .agg (tf (t.d.c vd) (t.a.c v8 v9 v10) vc vb)) rfl (load_all L6.out.at1 (t.d.elf HD.out.now.one) (t.a.elf HA.out.now.r8.one HA.out.now.r9.one HA.out.now.r10.one)) ?_)
   | ((with_reducible refine gate_dst (N := 36) rfl ?_); refine ev_load rfl (N := 36) rfl rfl (q := .pointer (some ⟨g3, 0, none⟩)) (v := .agg ((annA t.a t.d.a0 t.d.a1 t.d.s).1.c u8 u9 u10)) rfl (load_whole A6.out ((annA t.a t.d.a0 t.d.a1 t.d.s).1.elf (rone U4.out.r8) (rone U4.out.r9) (rone U4.out.r10))) ?_)
   | (go_at_call 47; refine (met_calls (t.d.c vd) (t.a.c v8 v9 v10) ((annA t.a t.d.a0 t.d.a1 t.d.s).1.c u8 u9 u10) (t.d.elf HD.out.now.one) (t.a.elf HA.out.now.r8.one HA.out.now.r9.one HA.out.now.r10.one) ((annA t.a t.d.a0 t.d.a1 t.d.s).1.elf (rone U4.out.r8) (rone U4.out.r9) (rone U4.out.r10)) vc vb HO.out (annA t.a t.d.a0 t.d.a1 t.d.s).1.b3 rfl (annA t.a t.d.a0 t.d.a1 t.d.s).2 B P t.b _ (Kd.R_step HR.out (fun i _ hlt => L6.out.kept.2 i hlt (fun hk => hk.elim))) (by have := HL.out; omega) (Nat.le_trans HBB.out L6.out.kept.1)).mono ?_; rintro _ w7 ⟨v1, rfl, ho, hm⟩; have L7 := Aside0.mk ((L6.out.weaken (S' := P) (fun _ hk => hk.elim)).mv hm (fun k hk => ⟨.inl hk, by have := HP.out k hk; have := L6.out.hg; omega, by have := HP.out k hk; have := L6.out.hr; omega⟩)); have HW6 := Aside0.mk L6.out.kept.1; have O7 := Aside0.mk ho; have M7 := Aside0.mk (M6.out.then_ hm (fun k hk => .inl (.inl (HPQ.out k hk)))); clear ho hm L6 A6 M6)
   | ((with_reducible refine gate_store (t := 40) (p := 2) rfl ?_); refine ev_store rfl (ty := 40) (p := 2) rfl rfl (q := .pointer (some ⟨gr, 0, none⟩)) (v := .agg (tf (t.d.c vd) ((annA t.a t.d.a0 t.d.a1 t.d.s).1.c u8 u9 u10) vc v1)) rfl rfl (store_all L7.out.at2.choose_spec.2 (L7.out.at2.choose_spec.1.trans (tf_size (t.d.elf HD.out.now.one) (t.a.elf HA.out.now.r8.one HA.out.now.r9.one HA.out.now.r10.one))) (t.d.elf HD.out.now.one) ((annA t.a t.d.a0 t.d.a1 t.d.s).1.elf (rone U4.out.r8) (rone U4.out.r9) (rone U4.out.r10)) HO.out (R_one O7.out)) ?_; intro w9 hF; have AF := Aside0.mk hF.1; have MF := Aside0.mk (L7.out.done hF.2); have SF := Aside0.mk hF.2; have QF := Aside0.mk L7.out.at2.choose_spec.2; have MU := Aside0.mk (M7.out.then_ (Mv.same (fun k => k = gr) rfl hF.2) (fun k hk => .inl (.inr (.inr (.inl hk))))); clear hF))
  refine bodyPost_ret (results_cell_row rfl _ _ gr 40 (tf (t.d.c vd) ((annA t.a t.d.a0 t.d.a1 t.d.s).1.c u8 u9 u10) vc v1) (0, 0) _ rfl AF.out Tryd.underlying40 rfl (by rw [tf_size (t.d.elf HD.out.now.one) ((annA t.a t.d.a0 t.d.a1 t.d.s).1.elf (rone U4.out.r8) (rone U4.out.r9) (rone U4.out.r10))]; kernel_rfl)) rfl ?_
  have MP := MF.out
  exact ⟨u8, u9, u10, vc, v1, rfl, (K4.out.mv MU.out (fun _ hk => hk)).anti (fun _ hk => .inl hk), HD.out.mv MP HPQ.out, HCR.out.mv MP HPQ.out, by rw [HBq.out]; exact Kd.R_mono (R_same O7.out QF.out (by decide) SF.out) (fun k hk => hk.elim .inl (fun h => .inr (Nat.le_trans HW6.out h))), MP⟩
 ·
  have e1 : (x == 1) = false := beq_eq_false_iff_ne.mpr c1
  by_cases c2 : x = 2
  ·
   subst c2
   clear e1
   rw [show forthT t 2 l = { t with f := l, a := (enqA t.a).1, b := if (enqA t.a).2 = 0 then t.b else t.b ++ [(enqA t.a).2] } from rfl]
   simp only []
   clear c1
   by_cases c3 : (enqA t.a).2 = 0
   ·
    have e3 : ((enqA t.a).2 != 0) = false := bne_eq_false_iff_eq.mpr c3
    rw [if_pos c3]
    clear c3
    go_enter Tryd.func48, Tryd.ntmps48
    go_wp2_with (first
     | ((with_reducible refine gate_dst (N := 1) rfl ?_); refine box_event rfl (N := 1) rfl (cs := tf (t.d.c vd) (t.a.c v8 v9 v10) (.slice (some ad) (l.length + 1) c) vb) (t := 40) ?hr ?_; (case hr => first | (go_simp; done) | (go_simp; rfl)); intro g hg w1 h1 b1; have G1 := Aside0.mk (And.intro hg (And.intro h1 b1)); clear hg h1 b1)
     | ((with_reducible refine gate_dst (N := 2) rfl ?_); refine box_event rfl (N := 2) rfl (cs := zero24) (t := 40) ?hr ?_; (case hr => first | (go_simp; done) | (go_simp; rfl)); intro gr hg w2 h1 b1; have L := Aside0.mk (Lo.start G1.out.1 G1.out.2.1 G1.out.2.2 hg h1 (zero24_size.trans (tf_size (t.d.elf HD.out.now.one) (t.a.elf HA.out.now.r8.one HA.out.now.r9.one HA.out.now.r10.one)).symm) b1 (fun _ => False)); have hc22 := cell_f L.out.at1 (t.d.elf HD.out.now.one) (t.a.elf HA.out.now.r8.one HA.out.now.r9.one HA.out.now.r10.one); have hc0 := first_cell HC.out (L.out.mv0.below (Nat.le_refl _) (fun _ hk => hk.elim)); clear hg h1 b1 G1)
     | ((with_reducible refine gate_dst (N := 14) rfl ?_); refine Kd.event_run rfl (v := vc) (w1 := w2) (exec_cut rfl rfl HVC.out) ?_)
     | ((with_reducible refine gate_store (t := 25) (p := 15) rfl ?_); refine ev_store rfl (ty := 25) (p := 15) rfl rfl (q := .pointer (some ⟨g, 22, none⟩)) (v := vc) rfl rfl (store_f L.out.at1 (t.d.elf HD.out.now.one) (t.a.elf HA.out.now.r8.one HA.out.now.r9.one HA.out.now.r10.one) HO.out) ?_; intro w3 hF; have L3 := Aside0.mk (L.out.same hF.1 ((tf_size (t.d.elf HD.out.now.one) (t.a.elf HA.out.now.r8.one HA.out.now.r9.one HA.out.now.r10.one)).trans (tf_size (t.d.elf HD.out.now.one) (t.a.elf HA.out.now.r8.one HA.out.now.r9.one HA.out.now.r10.one)).symm) hF.2); clear hF L hc22 hc0)
     | ((with_reducible refine gate_dst (N := 43) rfl ?_); refine ev_load rfl (N := 43) rfl rfl (q := .pointer (some ⟨g, 11, none⟩)) (v := .agg (t.a.c v8 v9 v10)) rfl (load_arr L3.out.at1 (t.d.elf HD.out.now.one) (t.a.elf HA.out.now.r8.one HA.out.now.r9.one HA.out.now.r10.one)) ?_)
     | (go_at_call 13; refine (enquire_w t.a (HA.out.now.below (L3.out.mv0.below (Nat.le_refl _) (fun _ hk => hk.elim))) HAF.out (HG.out.of_below (L3.out.mv0.below (Nat.le_refl _) (fun _ hk => hk.elim)))).mono ?_; rintro _ w4 ⟨u8, u9, u10, rfl, ho, hb⟩; have U4 := Aside0.mk ho; have L4 := Aside0.mk (L3.out.below hb); have K4 := Aside0.mk (ho.rdk (P := fun k => Q k ∨ k = g ∨ k = gr ∨ w4.heap.size ≤ k) (fun i hi => by have h1 := blk_lt L3.out.at1; have h2 := blk_lt L3.out.at2.choose_spec.2; have h3 := L3.out.kept.1; rcases hi with hi | hi | hi | hi; (have := HQ.out i hi; omega); omega; omega; exact .inr hi)); have HW := Aside0.mk (show w.heap.size ≤ w4.heap.size from Nat.le_trans L3.out.kept.1 hb.size); clear ho hb L3)
     | ((with_reducible refine gate_dst (N := 6) rfl ?_); refine box_event rfl (N := 6) rfl (cs := #[.int .i64 0, .int .i64 0, .int .i64 0, .int .i64 0, .int .i64 0, .string (⟨#[]⟩ : ByteArray), .int .i64 0, .int .i64 0, .slice none 0 0, .slice none 0 0, .slice none 0 0]) (t := 27) ?hr ?_; (case hr => first | (go_simp; done) | (go_simp; rfl)); intro g3 hg w5 h1 b1; have L5 := Aside0.mk (L4.out.below b1); have A5 := Aside0.mk h1; have N5 := Aside0.mk (show g3 ≠ g ∧ g3 ≠ gr ∧ g3 = w4.heap.size from ⟨by have := blk_lt L4.out.at1; omega, by have := blk_lt L4.out.at2.choose_spec.2; omega, hg⟩); have M5 := Aside0.mk (Mv.of_below b1 (fun k => Q k ∨ k = g ∨ k = gr ∨ w4.heap.size ≤ k)); clear hg h1 b1 L4)
     | ((with_reducible refine gate_store (t := 27) (p := 6) rfl ?_); refine ev_store rfl (ty := 27) (p := 6) rfl rfl (q := .pointer (some ⟨g3, 0, none⟩)) (v := .agg ((enqA t.a).1.c u8 u9 u10)) rfl rfl (store_eleven (by kernel_rfl) A5.out rfl ((enqA t.a).1.elf (rone U4.out.r8) (rone U4.out.r9) (rone U4.out.r10))) ?_; intro w6 hF; have L6 := Aside0.mk (L5.out.mv (Mv.same (fun k => k = g3) rfl hF.2) (fun k hk => by rw [hk]; exact ⟨.inr (by rw [N5.out.2.2]; exact HW.out), N5.out.1, N5.out.2.1⟩)); have A6 := Aside0.mk hF.1; have M6 := Aside0.mk (M5.out.then_ (Mv.same (fun k => k = g3) rfl hF.2) (fun k hk => .inl (.inr (.inr (.inr (by rw [hk, N5.out.2.2]; exact Nat.le_refl _)))))); clear hF L5 A5 M5)
     | ((with_reducible refine gate_dst (N := 47) rfl ?_); refine ev_load rfl (N := 47) rfl rfl (q := .pointer (some ⟨g3, 0, none⟩)) (v := .agg ((enqA t.a).1.c u8 u9 u10)) rfl (load_whole A6.out ((enqA t.a).1.elf (rone U4.out.r8) (rone U4.out.r9) (rone U4.out.r10))) ?_)
     | ((with_reducible refine gate_store (t := 27) (p := 48) rfl ?_); refine ev_store rfl (ty := 27) (p := 48) rfl rfl (q := .pointer (some ⟨g, 11, none⟩)) (v := .agg ((enqA t.a).1.c u8 u9 u10)) rfl rfl (store_arr L6.out.at1 (t.d.elf HD.out.now.one) (t.a.elf HA.out.now.r8.one HA.out.now.r9.one HA.out.now.r10.one) ((enqA t.a).1.elf (rone U4.out.r8) (rone U4.out.r9) (rone U4.out.r10))) ?_; intro w7 hF; have L7 := Aside0.mk (L6.out.same hF.1 ((tf_size (t.d.elf HD.out.now.one) ((enqA t.a).1.elf (rone U4.out.r8) (rone U4.out.r9) (rone U4.out.r10))).trans (tf_size (t.d.elf HD.out.now.one) (t.a.elf HA.out.now.r8.one HA.out.now.r9.one HA.out.now.r10.one)).symm) hF.2); have M7 := Aside0.mk (M6.out.then_ (Mv.same (fun k => k = g) rfl hF.2) (fun k hk => .inl (.inr (.inl hk)))); have hc23 := cell_b L7.out.at1 (t.d.elf HD.out.now.one) ((enqA t.a).1.elf (rone U4.out.r8) (rone U4.out.r9) (rone U4.out.r10)); clear hF L6 A6 M6)
     | ((with_reducible refine gate_dst (N := 57) rfl ?_); refine ev_load rfl (N := 57) rfl rfl (q := .pointer (some ⟨g, 0, none⟩)) (v := .agg (tf (t.d.c vd) ((enqA t.a).1.c u8 u9 u10) vc vb)) rfl (load_all L7.out.at1 (t.d.elf HD.out.now.one) ((enqA t.a).1.elf (rone U4.out.r8) (rone U4.out.r9) (rone U4.out.r10))) ?_)
     | ((with_reducible refine gate_store (t := 40) (p := 2) rfl ?_); refine ev_store rfl (ty := 40) (p := 2) rfl rfl (q := .pointer (some ⟨gr, 0, none⟩)) (v := .agg (tf (t.d.c vd) ((enqA t.a).1.c u8 u9 u10) vc vb)) rfl rfl (store_res L7.out (t.d.elf HD.out.now.one) ((enqA t.a).1.elf (rone U4.out.r8) (rone U4.out.r9) (rone U4.out.r10)) HO.out (R_one HR.out)) ?_; intro w9 hF; have AF := Aside0.mk hF.1; have MF := Aside0.mk (L7.out.done hF.2); have SF := Aside0.mk hF.2; have QF := Aside0.mk L7.out.at2.choose_spec.2; have MU := Aside0.mk (M7.out.then_ (Mv.same (fun k => k = gr) rfl hF.2) (fun k hk => .inl (.inr (.inr (.inl hk))))); clear hF))
    refine bodyPost_ret (results_cell_row rfl _ _ gr 40 (tf (t.d.c vd) ((enqA t.a).1.c u8 u9 u10) vc vb) (0, 0) _ rfl AF.out Tryd.underlying40 rfl (by rw [tf_size (t.d.elf HD.out.now.one) ((enqA t.a).1.elf (rone U4.out.r8) (rone U4.out.r9) (rone U4.out.r10))]; kernel_rfl)) rfl ?_
    have MP := MF.out.weaken (P2 := P) (fun _ hk => hk.elim)
    exact ⟨u8, u9, u10, vc, vb, rfl, (K4.out.mv MU.out (fun _ hk => hk)).anti (fun _ hk => .inl hk), HD.out.mv MP HPQ.out, HCR.out.mv MP HPQ.out, R_old HR.out MF.out (fun _ _ hk => hk), MP⟩
   ·
    have e3 : ((enqA t.a).2 != 0) = true := bne_iff_ne.mpr c3
    rw [if_neg c3]
    clear c3
    go_enter Tryd.func48, Tryd.ntmps48
    go_wp2_with (first
     | ((with_reducible refine gate_dst (N := 1) rfl ?_); refine box_event rfl (N := 1) rfl (cs := tf (t.d.c vd) (t.a.c v8 v9 v10) (.slice (some ad) (l.length + 1) c) vb) (t := 40) ?hr ?_; (case hr => first | (go_simp; done) | (go_simp; rfl)); intro g hg w1 h1 b1; have G1 := Aside0.mk (And.intro hg (And.intro h1 b1)); clear hg h1 b1)
     | ((with_reducible refine gate_dst (N := 2) rfl ?_); refine box_event rfl (N := 2) rfl (cs := zero24) (t := 40) ?hr ?_; (case hr => first | (go_simp; done) | (go_simp; rfl)); intro gr hg w2 h1 b1; have L := Aside0.mk (Lo.start G1.out.1 G1.out.2.1 G1.out.2.2 hg h1 (zero24_size.trans (tf_size (t.d.elf HD.out.now.one) (t.a.elf HA.out.now.r8.one HA.out.now.r9.one HA.out.now.r10.one)).symm) b1 (fun _ => False)); have hc22 := cell_f L.out.at1 (t.d.elf HD.out.now.one) (t.a.elf HA.out.now.r8.one HA.out.now.r9.one HA.out.now.r10.one); have hc0 := first_cell HC.out (L.out.mv0.below (Nat.le_refl _) (fun _ hk => hk.elim)); clear hg h1 b1 G1)
     | ((with_reducible refine gate_dst (N := 14) rfl ?_); refine Kd.event_run rfl (v := vc) (w1 := w2) (exec_cut rfl rfl HVC.out) ?_)
     | ((with_reducible refine gate_store (t := 25) (p := 15) rfl ?_); refine ev_store rfl (ty := 25) (p := 15) rfl rfl (q := .pointer (some ⟨g, 22, none⟩)) (v := vc) rfl rfl (store_f L.out.at1 (t.d.elf HD.out.now.one) (t.a.elf HA.out.now.r8.one HA.out.now.r9.one HA.out.now.r10.one) HO.out) ?_; intro w3 hF; have L3 := Aside0.mk (L.out.same hF.1 ((tf_size (t.d.elf HD.out.now.one) (t.a.elf HA.out.now.r8.one HA.out.now.r9.one HA.out.now.r10.one)).trans (tf_size (t.d.elf HD.out.now.one) (t.a.elf HA.out.now.r8.one HA.out.now.r9.one HA.out.now.r10.one)).symm) hF.2); clear hF L hc22 hc0)
     | ((with_reducible refine gate_dst (N := 43) rfl ?_); refine ev_load rfl (N := 43) rfl rfl (q := .pointer (some ⟨g, 11, none⟩)) (v := .agg (t.a.c v8 v9 v10)) rfl (load_arr L3.out.at1 (t.d.elf HD.out.now.one) (t.a.elf HA.out.now.r8.one HA.out.now.r9.one HA.out.now.r10.one)) ?_)
     | (go_at_call 13; refine (enquire_w t.a (HA.out.now.below (L3.out.mv0.below (Nat.le_refl _) (fun _ hk => hk.elim))) HAF.out (HG.out.of_below (L3.out.mv0.below (Nat.le_refl _) (fun _ hk => hk.elim)))).mono ?_; rintro _ w4 ⟨u8, u9, u10, rfl, ho, hb⟩; have U4 := Aside0.mk ho; have L4 := Aside0.mk (L3.out.below hb); have K4 := Aside0.mk (ho.rdk (P := fun k => Q k ∨ k = g ∨ k = gr ∨ w4.heap.size ≤ k) (fun i hi => by have h1 := blk_lt L3.out.at1; have h2 := blk_lt L3.out.at2.choose_spec.2; have h3 := L3.out.kept.1; rcases hi with hi | hi | hi | hi; (have := HQ.out i hi; omega); omega; omega; exact .inr hi)); have HW := Aside0.mk (show w.heap.size ≤ w4.heap.size from Nat.le_trans L3.out.kept.1 hb.size); clear ho hb L3)
     | ((with_reducible refine gate_dst (N := 6) rfl ?_); refine box_event rfl (N := 6) rfl (cs := #[.int .i64 0, .int .i64 0, .int .i64 0, .int .i64 0, .int .i64 0, .string (⟨#[]⟩ : ByteArray), .int .i64 0, .int .i64 0, .slice none 0 0, .slice none 0 0, .slice none 0 0]) (t := 27) ?hr ?_; (case hr => first | (go_simp; done) | (go_simp; rfl)); intro g3 hg w5 h1 b1; have L5 := Aside0.mk (L4.out.below b1); have A5 := Aside0.mk h1; have N5 := Aside0.mk (show g3 ≠ g ∧ g3 ≠ gr ∧ g3 = w4.heap.size from ⟨by have := blk_lt L4.out.at1; omega, by have := blk_lt L4.out.at2.choose_spec.2; omega, hg⟩); have M5 := Aside0.mk (Mv.of_below b1 (fun k => Q k ∨ k = g ∨ k = gr ∨ w4.heap.size ≤ k)); clear hg h1 b1 L4)
     | ((with_reducible refine gate_store (t := 27) (p := 6) rfl ?_); refine ev_store rfl (ty := 27) (p := 6) rfl rfl (q := .pointer (some ⟨g3, 0, none⟩)) (v := .agg ((enqA t.a).1.c u8 u9 u10)) rfl rfl (store_eleven (by kernel_rfl) A5.out rfl ((enqA t.a).1.elf (rone U4.out.r8) (rone U4.out.r9) (rone U4.out.r10))) ?_; intro w6 hF; have L6 := Aside0.mk (L5.out.mv (Mv.same (fun k => k = g3) rfl hF.2) (fun k hk => by rw [hk]; exact ⟨.inr (by rw [N5.out.2.2]; exact HW.out), N5.out.1, N5.out.2.1⟩)); have A6 := Aside0.mk hF.1; have M6 := Aside0.mk (M5.out.then_ (Mv.same (fun k => k = g3) rfl hF.2) (fun k hk => .inl (.inr (.inr (.inr (by rw [hk, N5.out.2.2]; exact Nat.le_refl _)))))); clear hF L5 A5 M5)
     | ((with_reducible refine gate_dst (N := 47) rfl ?_); refine ev_load rfl (N := 47) rfl rfl (q := .pointer (some ⟨g3, 0, none⟩)) (v := .agg ((enqA t.a).1.c u8 u9 u10)) rfl (load_whole A6.out ((enqA t.a).1.elf (rone U4.out.r8) (rone U4.out.r9) (rone U4.out.r10))) ?_)
     | ((with_reducible refine gate_store (t := 27) (p := 48) rfl ?_); refine ev_store rfl (ty := 27) (p := 48) rfl rfl (q := .pointer (some ⟨g, 11, none⟩)) (v := .agg ((enqA t.a).1.c u8 u9 u10)) rfl rfl (store_arr L6.out.at1 (t.d.elf HD.out.now.one) (t.a.elf HA.out.now.r8.one HA.out.now.r9.one HA.out.now.r10.one) ((enqA t.a).1.elf (rone U4.out.r8) (rone U4.out.r9) (rone U4.out.r10))) ?_; intro w7 hF; have L7 := Aside0.mk (L6.out.same hF.1 ((tf_size (t.d.elf HD.out.now.one) ((enqA t.a).1.elf (rone U4.out.r8) (rone U4.out.r9) (rone U4.out.r10))).trans (tf_size (t.d.elf HD.out.now.one) (t.a.elf HA.out.now.r8.one HA.out.now.r9.one HA.out.now.r10.one)).symm) hF.2); have M7 := Aside0.mk (M6.out.then_ (Mv.same (fun k => k = g) rfl hF.2) (fun k hk => .inl (.inr (.inl hk)))); have hc23 := cell_b L7.out.at1 (t.d.elf HD.out.now.one) ((enqA t.a).1.elf (rone U4.out.r8) (rone U4.out.r9) (rone U4.out.r10)); clear hF L6 A6 M6)
     | ((with_reducible refine gate_builtin (b := .append) (xs := #[.tmp 52, .tmp 54]) rfl ?_); at_builtin; refine Kd.R_append (Kd.int .i64) (w0 := w) B rfl (.tmp 52) (.tmp 54) 25 3 (.int .i64 0) 8 rfl Tryd.underlying25 info3 rfl (by decide) (by omega) vb t.b (enqA t.a).2 [.int .i64 (enqA t.a).2] (fun k => P k ∨ w.heap.size ≤ k) (fun _ => False) rfl ?hx rfl (fun _ hk => hk.elim) ?aF (R_old HR.out L7.out.mv0 (fun _ _ hk => hk)) (L7.out.mv0.below HBB.out (fun _ hk => hk.elim)) (Nat.le_trans HBB.out L7.out.kept.1) ?aL ?_; (case hx => first | (go_simp; done) | (go_simp; rfl)); (case aF => exact fun k hk => .inr (Nat.le_trans L7.out.kept.1 hk)); (case aL => have := HL.out; omega); intro v1 w8 ho hb hg hat; have L8 := Aside0.mk (L7.out.app (fun _ hk => hk.elim) HR.out hg); have O8 := Aside0.mk ho; have M8 := Aside0.mk (M7.out.then_ (Mv.of_grown hg) (fun k hk => .inl (.inl (HPQ.out k (HR.out.1 k hk))))); clear ho hb hg hat L7 hc23 M7)
     | ((with_reducible refine gate_store (t := 25) (p := 56) rfl ?_); refine ev_store rfl (ty := 25) (p := 56) rfl rfl (q := .pointer (some ⟨g, 23, none⟩)) (v := v1) rfl rfl (store_b L8.out.at1 (t.d.elf HD.out.now.one) ((enqA t.a).1.elf (rone U4.out.r8) (rone U4.out.r9) (rone U4.out.r10)) (R_one O8.out)) ?_; intro w10 hF; have L10 := Aside0.mk (L8.out.same hF.1 ((tf_size (t.d.elf HD.out.now.one) ((enqA t.a).1.elf (rone U4.out.r8) (rone U4.out.r9) (rone U4.out.r10))).trans (tf_size (t.d.elf HD.out.now.one) ((enqA t.a).1.elf (rone U4.out.r8) (rone U4.out.r9) (rone U4.out.r10))).symm) hF.2); have O10 := Aside0.mk (R_same O8.out L8.out.at1 (by decide) hF.2); have M10 := Aside0.mk (M8.out.then_ (Mv.same (fun k => k = g) rfl hF.2) (fun k hk => .inl (.inr (.inl hk)))); clear hF L8 O8 M8)
     | ((with_reducible refine gate_dst (N := 57) rfl ?_); refine ev_load rfl (N := 57) rfl rfl (q := .pointer (some ⟨g, 0, none⟩)) (v := .agg (tf (t.d.c vd) ((enqA t.a).1.c u8 u9 u10) vc v1)) rfl (load_all L10.out.at1 (t.d.elf HD.out.now.one) ((enqA t.a).1.elf (rone U4.out.r8) (rone U4.out.r9) (rone U4.out.r10))) ?_)
     | ((with_reducible refine gate_store (t := 40) (p := 2) rfl ?_); refine ev_store rfl (ty := 40) (p := 2) rfl rfl (q := .pointer (some ⟨gr, 0, none⟩)) (v := .agg (tf (t.d.c vd) ((enqA t.a).1.c u8 u9 u10) vc v1)) rfl rfl (store_res L10.out (t.d.elf HD.out.now.one) ((enqA t.a).1.elf (rone U4.out.r8) (rone U4.out.r9) (rone U4.out.r10)) HO.out (R_one O10.out)) ?_; intro w9 hF; have AF := Aside0.mk hF.1; have MF := Aside0.mk (L10.out.done hF.2); have SF := Aside0.mk hF.2; have QF := Aside0.mk L10.out.at2.choose_spec.2; have MU := Aside0.mk (M10.out.then_ (Mv.same (fun k => k = gr) rfl hF.2) (fun k hk => .inl (.inr (.inr (.inl hk))))); clear hF))
    refine bodyPost_ret (results_cell_row rfl _ _ gr 40 (tf (t.d.c vd) ((enqA t.a).1.c u8 u9 u10) vc v1) (0, 0) _ rfl AF.out Tryd.underlying40 rfl (by rw [tf_size (t.d.elf HD.out.now.one) ((enqA t.a).1.elf (rone U4.out.r8) (rone U4.out.r9) (rone U4.out.r10))]; kernel_rfl)) rfl ?_
    have MP := MF.out
    exact ⟨u8, u9, u10, vc, v1, rfl, (K4.out.mv MU.out (fun _ hk => hk)).anti (fun _ hk => .inl hk), HD.out.mv MP HPQ.out, HCR.out.mv MP HPQ.out, R_same O10.out QF.out (by decide) SF.out, MP⟩
  ·
   have e2 : (x == 2) = false := beq_eq_false_iff_ne.mpr c2
   rw [show forthT t x l = { t with f := l } by unfold forthT; rw [if_neg c1, if_neg c2]]
   clear c1 c2
   go_enter Tryd.func48, Tryd.ntmps48
   go_wp2_with (first
    | ((with_reducible refine gate_dst (N := 1) rfl ?_); refine box_event rfl (N := 1) rfl (cs := tf (t.d.c vd) (t.a.c v8 v9 v10) (.slice (some ad) (l.length + 1) c) vb) (t := 40) ?hr ?_; (case hr => first | (go_simp; done) | (go_simp; rfl)); intro g hg w1 h1 b1; have G1 := Aside0.mk (And.intro hg (And.intro h1 b1)); clear hg h1 b1)
    | ((with_reducible refine gate_dst (N := 2) rfl ?_); refine box_event rfl (N := 2) rfl (cs := zero24) (t := 40) ?hr ?_; (case hr => first | (go_simp; done) | (go_simp; rfl)); intro gr hg w2 h1 b1; have L := Aside0.mk (Lo.start G1.out.1 G1.out.2.1 G1.out.2.2 hg h1 (zero24_size.trans (tf_size (t.d.elf HD.out.now.one) (t.a.elf HA.out.now.r8.one HA.out.now.r9.one HA.out.now.r10.one)).symm) b1 (fun _ => False)); have hc22 := cell_f L.out.at1 (t.d.elf HD.out.now.one) (t.a.elf HA.out.now.r8.one HA.out.now.r9.one HA.out.now.r10.one); have hc0 := first_cell HC.out (L.out.mv0.below (Nat.le_refl _) (fun _ hk => hk.elim)); clear hg h1 b1 G1)
    | ((with_reducible refine gate_dst (N := 14) rfl ?_); refine Kd.event_run rfl (v := vc) (w1 := w2) (exec_cut rfl rfl HVC.out) ?_)
    | ((with_reducible refine gate_store (t := 25) (p := 15) rfl ?_); refine ev_store rfl (ty := 25) (p := 15) rfl rfl (q := .pointer (some ⟨g, 22, none⟩)) (v := vc) rfl rfl (store_f L.out.at1 (t.d.elf HD.out.now.one) (t.a.elf HA.out.now.r8.one HA.out.now.r9.one HA.out.now.r10.one) HO.out) ?_; intro w3 hF; have L3 := Aside0.mk (L.out.same hF.1 ((tf_size (t.d.elf HD.out.now.one) (t.a.elf HA.out.now.r8.one HA.out.now.r9.one HA.out.now.r10.one)).trans (tf_size (t.d.elf HD.out.now.one) (t.a.elf HA.out.now.r8.one HA.out.now.r9.one HA.out.now.r10.one)).symm) hF.2); clear hF L hc22 hc0)
    | ((with_reducible refine gate_dst (N := 57) rfl ?_); refine ev_load rfl (N := 57) rfl rfl (q := .pointer (some ⟨g, 0, none⟩)) (v := .agg (tf (t.d.c vd) (t.a.c v8 v9 v10) vc vb)) rfl (load_all L3.out.at1 (t.d.elf HD.out.now.one) (t.a.elf HA.out.now.r8.one HA.out.now.r9.one HA.out.now.r10.one)) ?_)
    | ((with_reducible refine gate_store (t := 40) (p := 2) rfl ?_); refine ev_store rfl (ty := 40) (p := 2) rfl rfl (q := .pointer (some ⟨gr, 0, none⟩)) (v := .agg (tf (t.d.c vd) (t.a.c v8 v9 v10) vc vb)) rfl rfl (store_res L3.out (t.d.elf HD.out.now.one) (t.a.elf HA.out.now.r8.one HA.out.now.r9.one HA.out.now.r10.one) HO.out (R_one HR.out)) ?_; intro w9 hF; have AF := Aside0.mk hF.1; have MF := Aside0.mk (L3.out.done hF.2); have SF := Aside0.mk hF.2; have QF := Aside0.mk L3.out.at2.choose_spec.2; clear hF))
   refine bodyPost_ret (results_cell_row rfl _ _ gr 40 (tf (t.d.c vd) (t.a.c v8 v9 v10) vc vb) (0, 0) _ rfl AF.out Tryd.underlying40 rfl (by rw [tf_size (t.d.elf HD.out.now.one) (t.a.elf HA.out.now.r8.one HA.out.now.r9.one HA.out.now.r10.one)]; kernel_rfl)) rfl ?_
   have MP := MF.out.weaken (P2 := P) (fun _ hk => hk.elim)
   exact ⟨v8, v9, v10, vc, vb, rfl, HA.out.mv MP HPQ.out, HD.out.mv MP HPQ.out, HCR.out.mv MP HPQ.out, R_old HR.out MF.out (fun _ _ hk => hk), MP⟩


set_option maxHeartbeats 4000000 in
set_option maxRecDepth 100000 in
theorem decided_calls (d : Dep) (gg : Bool) (ca : Array Value) (ha : Elf ca) (vd vf vb : Value) (f : List Int) (B : Nat) (P Q : Nat → Prop) (w : World) (hq : ∀ i, Q i → i < w.heap.size) (hd : RdK (Kd.int .i64) Q w vd d.s) (hs : d.s.length < 5000000000000)
  (hR : Kd.R (Kd.int .i64) 3 w B P vf f) (hf : f.length < 5000000000000) (hv : vb.oneCell' = true) (hB : B ≤ w.heap.size) :
  Calls Tryd.prog 46 #[.agg (tf (d.c vd) ca vf vb), .bool gg] w fun e w' => ∃ vd' vf' : Value, e = .returned (.agg (tf ((if d.a5 = 1 then decD d gg else d).c vd') ca vf' vb)) ∧ RdK (Kd.int .i64) Q w' vd' (if d.a5 = 1 then decD d gg else d).s ∧ Kd.R (Kd.int .i64) 3 w' B (fun k => P k ∨ w.heap.size ≤ k) vf' (if d.a5 = 1 ∧ gg = true then f ++ [1] else f) ∧ Mv P w w' := by
 have HQ := Aside0.mk hq
 have HD := Aside0.mk hd
 have HA := Aside0.mk ha
 have HS := Aside0.mk hs
 have HR := Aside0.mk hR
 have HL := Aside0.mk hf
 have HV := Aside0.mk hv
 have HBB := Aside0.mk hB
 clear hq hd ha hs hR hf hv hB
 have hu40 := Tryd.underlying40
 have hu38 := Tryd.underlying38
 by_cases c : d.a5 = 1
 ·
  have c0 : (d.a5 != 1) = false := bne_eq_false_iff_eq.mpr c
  have H5 := Aside0.mk c
  rw [if_pos c]
  cases gg with
  | false =>
   rw [if_neg (fun h => by cases h.2)]
   clear c
   go_enter Tryd.func46, Tryd.ntmps46
   go_wp2_with (first
    | ((with_reducible refine gate_dst (N := 2) rfl ?_); refine box_event rfl (N := 2) rfl (cs := tf (d.c vd) ca vf vb) (t := 40) ?hr ?_; (case hr => first | (go_simp; done) | (go_simp; rfl)); intro g hg w1 h1 b1; have G1 := Aside0.mk (And.intro hg (And.intro h1 b1)); clear hg h1 b1)
    | ((with_reducible refine gate_dst (N := 4) rfl ?_); refine box_event rfl (N := 4) rfl (cs := zero24) (t := 40) ?hr ?_; (case hr => first | (go_simp; done) | (go_simp; rfl)); intro gr hg w2 h1 b1; have L := Aside0.mk (Lo.start G1.out.1 G1.out.2.1 G1.out.2.2 hg h1 (zero24_size.trans (tf_size (d.elf HD.out.now.one) HA.out).symm) b1 (fun _ => False)); have hc5 : w2.cell? ⟨g, 5, none⟩ = some (.int .i64 d.a5) := cell_dep L.out.at1 (d.elf HD.out.now.one) (by decide) rfl; have hc6 : w2.cell? ⟨g, 6, none⟩ = some (.int .i64 d.a6) := cell_dep L.out.at1 (d.elf HD.out.now.one) (by decide) rfl; have hc7 : w2.cell? ⟨g, 7, none⟩ = some (.int .i64 d.a7) := cell_dep L.out.at1 (d.elf HD.out.now.one) (by decide) rfl; clear hg h1 b1 G1)
    | ((with_reducible refine gate_dst (N := 11) rfl ?_); refine ev_load rfl (N := 11) rfl rfl (q := .pointer (some ⟨g, 0, none⟩)) (v := .agg (d.c vd)) rfl (load_dep L.out.at1 (d.elf HD.out.now.one)) ?_)
    | (go_at_call 34; refine (decide_w d false (HD.out.now.below (L.out.mv0.below (Nat.le_refl _) (fun _ hk => hk.elim))) HS.out H5.out).mono ?_; rintro _ w3 ⟨v', rfl, ho, hb⟩; have O3 := Aside0.mk (Kd.R_lower ho L.out.kept.1); have L3 := Aside0.mk (L.out.below hb); clear ho hb L hc5 hc6 hc7)
    | ((with_reducible refine gate_store (t := 38) (p := 20) rfl ?_); refine ev_store rfl (ty := 38) (p := 20) rfl rfl (q := .pointer (some ⟨g, 0, none⟩)) (v := .agg ((decD d false).c v')) rfl rfl (store_dep L3.out.at1 (d.elf HD.out.now.one) HA.out ((decD d false).elf (rone O3.out))) ?_; intro w4 hF; have L4 := Aside0.mk (L3.out.same hF.1 ((tf_size ((decD d false).elf (rone O3.out)) HA.out).trans (tf_size (d.elf HD.out.now.one) HA.out).symm) hF.2); have O4 := Aside0.mk (R_same O3.out L3.out.at1 (by decide) hF.2); have hc22 := cell_f L4.out.at1 ((decD d false).elf (rone O4.out)) HA.out; clear hF L3 O3)
    | ((with_reducible refine gate_dst (N := 27) rfl ?_); refine ev_load rfl (N := 27) rfl rfl (q := .pointer (some ⟨g, 0, none⟩)) (v := .agg (tf ((decD d false).c v') ca vf vb)) rfl (load_all L4.out.at1 ((decD d false).elf (rone O4.out)) HA.out) ?_)
    | ((with_reducible refine gate_store (t := 40) (p := 4) rfl ?_); refine ev_store rfl (ty := 40) (p := 4) rfl rfl (q := .pointer (some ⟨gr, 0, none⟩)) (v := .agg (tf ((decD d false).c v') ca vf vb)) rfl rfl (store_res L4.out ((decD d false).elf (rone O4.out)) HA.out (rone HR.out) HV.out) ?_; intro w9 hF; have AF := Aside0.mk hF.1; have MF := Aside0.mk (L4.out.done hF.2); have SF := Aside0.mk hF.2; have QF := Aside0.mk L4.out.at2.choose_spec.2; clear hF))
   refine bodyPost_ret (results_cell_row rfl _ _ gr 40 (tf ((decD d false).c v') ca vf vb) (0, 0) _ rfl AF.out Tryd.underlying40 rfl (by rw [tf_size ((decD d false).elf (rone O4.out)) HA.out]; kernel_rfl)) rfl ?_
   exact ⟨v', vf, rfl, RdK.of_R (R_same O4.out QF.out (by decide) SF.out) (fun i _ h1 _ hq => by have := HQ.out i hq; omega), R_old HR.out MF.out (fun _ _ hk => hk), MF.out.weaken (fun _ hk => hk.elim)⟩
  | true =>
   rw [if_pos ⟨c, rfl⟩]
   clear c
   go_enter Tryd.func46, Tryd.ntmps46
   go_wp2_with (first
    | ((with_reducible refine gate_dst (N := 2) rfl ?_); refine box_event rfl (N := 2) rfl (cs := tf (d.c vd) ca vf vb) (t := 40) ?hr ?_; (case hr => first | (go_simp; done) | (go_simp; rfl)); intro g hg w1 h1 b1; have G1 := Aside0.mk (And.intro hg (And.intro h1 b1)); clear hg h1 b1)
    | ((with_reducible refine gate_dst (N := 4) rfl ?_); refine box_event rfl (N := 4) rfl (cs := zero24) (t := 40) ?hr ?_; (case hr => first | (go_simp; done) | (go_simp; rfl)); intro gr hg w2 h1 b1; have L := Aside0.mk (Lo.start G1.out.1 G1.out.2.1 G1.out.2.2 hg h1 (zero24_size.trans (tf_size (d.elf HD.out.now.one) HA.out).symm) b1 (fun _ => False)); have hc5 : w2.cell? ⟨g, 5, none⟩ = some (.int .i64 d.a5) := cell_dep L.out.at1 (d.elf HD.out.now.one) (by decide) rfl; have hc6 : w2.cell? ⟨g, 6, none⟩ = some (.int .i64 d.a6) := cell_dep L.out.at1 (d.elf HD.out.now.one) (by decide) rfl; have hc7 : w2.cell? ⟨g, 7, none⟩ = some (.int .i64 d.a7) := cell_dep L.out.at1 (d.elf HD.out.now.one) (by decide) rfl; clear hg h1 b1 G1)
    | ((with_reducible refine gate_dst (N := 11) rfl ?_); refine ev_load rfl (N := 11) rfl rfl (q := .pointer (some ⟨g, 0, none⟩)) (v := .agg (d.c vd)) rfl (load_dep L.out.at1 (d.elf HD.out.now.one)) ?_)
    | (go_at_call 34; refine (decide_w d true (HD.out.now.below (L.out.mv0.below (Nat.le_refl _) (fun _ hk => hk.elim))) HS.out H5.out).mono ?_; rintro _ w3 ⟨v', rfl, ho, hb⟩; have O3 := Aside0.mk (Kd.R_lower ho L.out.kept.1); have L3 := Aside0.mk (L.out.below hb); clear ho hb L hc5 hc6 hc7)
    | ((with_reducible refine gate_store (t := 38) (p := 20) rfl ?_); refine ev_store rfl (ty := 38) (p := 20) rfl rfl (q := .pointer (some ⟨g, 0, none⟩)) (v := .agg ((decD d true).c v')) rfl rfl (store_dep L3.out.at1 (d.elf HD.out.now.one) HA.out ((decD d true).elf (rone O3.out))) ?_; intro w4 hF; have L4 := Aside0.mk (L3.out.same hF.1 ((tf_size ((decD d true).elf (rone O3.out)) HA.out).trans (tf_size (d.elf HD.out.now.one) HA.out).symm) hF.2); have O4 := Aside0.mk (R_same O3.out L3.out.at1 (by decide) hF.2); have hc22 := cell_f L4.out.at1 ((decD d true).elf (rone O4.out)) HA.out; clear hF L3 O3)
    | ((with_reducible refine gate_builtin (b := .append) (xs := #[.tmp 23, .tmp 24]) rfl ?_); at_builtin; refine Kd.R_append (Kd.int .i64) (w0 := w) B rfl (.tmp 23) (.tmp 24) 25 3 (.int .i64 0) 8 rfl Tryd.underlying25 info3 rfl (by decide) (by omega) vf f 1 [.int .i64 1] (fun k => P k ∨ w.heap.size ≤ k) (fun _ => False) rfl ?hx rfl (fun _ hk => hk.elim) ?aF (R_old HR.out L4.out.mv0 (fun _ _ hk => hk)) (L4.out.mv0.below HBB.out (fun _ hk => hk.elim)) (Nat.le_trans HBB.out L4.out.kept.1) ?aL ?_; (case hx => first | (go_simp; done) | (go_simp; rfl)); (case aF => exact fun k hk => .inr (Nat.le_trans L4.out.kept.1 hk)); (case aL => have := HL.out; omega); intro v1 w5 ho hb hg hat; have L5 := Aside0.mk (L4.out.app (fun _ hk => hk.elim) HR.out hg); have O5 := Aside0.mk ho; have D5 := Aside0.mk (Kd.R_grown (Kd.R_bound O4.out) hg (fun k hk e => by have h1 := (Kd.R_bound HR.out).1 k e.symm; have h2 := hk.2.1; have h3 := h1.2.2.1; omega)); clear ho hb hg hat L4 hc22 O4)
    | ((with_reducible refine gate_store (t := 25) (p := 26) rfl ?_); refine ev_store rfl (ty := 25) (p := 26) rfl rfl (q := .pointer (some ⟨g, 22, none⟩)) (v := v1) rfl rfl (store_f L5.out.at1 ((decD d true).elf (rone D5.out)) HA.out (rone O5.out)) ?_; intro w6 hF; have L6 := Aside0.mk (L5.out.same hF.1 ((tf_size ((decD d true).elf (rone D5.out)) HA.out).trans (tf_size ((decD d true).elf (rone D5.out)) HA.out).symm) hF.2); have O6 := Aside0.mk (R_same O5.out L5.out.at1 (by decide) hF.2); have D6 := Aside0.mk (R_same D5.out L5.out.at1 (by decide) hF.2); clear hF L5 O5 D5)
    | ((with_reducible refine gate_dst (N := 27) rfl ?_); refine ev_load rfl (N := 27) rfl rfl (q := .pointer (some ⟨g, 0, none⟩)) (v := .agg (tf ((decD d true).c v') ca v1 vb)) rfl (load_all L6.out.at1 ((decD d true).elf (rone D6.out)) HA.out) ?_)
    | ((with_reducible refine gate_store (t := 40) (p := 4) rfl ?_); refine ev_store rfl (ty := 40) (p := 4) rfl rfl (q := .pointer (some ⟨gr, 0, none⟩)) (v := .agg (tf ((decD d true).c v') ca v1 vb)) rfl rfl (store_res L6.out ((decD d true).elf (rone D6.out)) HA.out (rone O6.out) HV.out) ?_; intro w9 hF; have AF := Aside0.mk hF.1; have MF := Aside0.mk (L6.out.done hF.2); have SF := Aside0.mk hF.2; have QF := Aside0.mk L6.out.at2.choose_spec.2; clear hF))
   refine bodyPost_ret (results_cell_row rfl _ _ gr 40 (tf ((decD d true).c v') ca v1 vb) (0, 0) _ rfl AF.out Tryd.underlying40 rfl (by rw [tf_size ((decD d true).elf (rone D6.out)) HA.out]; kernel_rfl)) rfl ?_
   exact ⟨v', v1, rfl, RdK.of_R (R_same D6.out QF.out (by decide) SF.out) (fun i _ h1 _ hq => by have := HQ.out i hq; omega), R_same O6.out QF.out (by decide) SF.out, MF.out⟩
 ·
  rw [if_neg c, if_neg (fun h => c h.1)]
  have c0 : (d.a5 != 1) = true := bne_iff_ne.mpr c
  clear c
  go_enter Tryd.func46, Tryd.ntmps46
  go_wp2_with (first
   | ((with_reducible refine gate_dst (N := 2) rfl ?_); refine box_event rfl (N := 2) rfl (cs := tf (d.c vd) ca vf vb) (t := 40) ?hr ?_; (case hr => first | (go_simp; done) | (go_simp; rfl)); intro g hg w1 h1 b1; have G1 := Aside0.mk (And.intro hg (And.intro h1 b1)); clear hg h1 b1)
   | ((with_reducible refine gate_dst (N := 4) rfl ?_); refine box_event rfl (N := 4) rfl (cs := zero24) (t := 40) ?hr ?_; (case hr => first | (go_simp; done) | (go_simp; rfl)); intro gr hg w2 h1 b1; have L := Aside0.mk (Lo.start G1.out.1 G1.out.2.1 G1.out.2.2 hg h1 (zero24_size.trans (tf_size (d.elf HD.out.now.one) HA.out).symm) b1 (fun _ => False)); have hc5 : w2.cell? ⟨g, 5, none⟩ = some (.int .i64 d.a5) := cell_dep L.out.at1 (d.elf HD.out.now.one) (by decide) rfl; have hc6 : w2.cell? ⟨g, 6, none⟩ = some (.int .i64 d.a6) := cell_dep L.out.at1 (d.elf HD.out.now.one) (by decide) rfl; have hc7 : w2.cell? ⟨g, 7, none⟩ = some (.int .i64 d.a7) := cell_dep L.out.at1 (d.elf HD.out.now.one) (by decide) rfl; clear hg h1 b1 G1)
   | ((with_reducible refine gate_dst (N := 9) rfl ?_); refine ev_load rfl (N := 9) rfl rfl (q := .pointer (some ⟨g, 0, none⟩)) (v := .agg (tf (d.c vd) ca vf vb)) rfl (load_all L.out.at1 (d.elf HD.out.now.one) HA.out) ?_)
   | ((with_reducible refine gate_store (t := 40) (p := 4) rfl ?_); refine ev_store rfl (ty := 40) (p := 4) rfl rfl (q := .pointer (some ⟨gr, 0, none⟩)) (v := .agg (tf (d.c vd) ca vf vb)) rfl rfl (store_res L.out (d.elf HD.out.now.one) HA.out (rone HR.out) HV.out) ?_; intro w9 hF; have AF := Aside0.mk hF.1; have MF := Aside0.mk (L.out.done hF.2); have SF := Aside0.mk hF.2; have QF := Aside0.mk L.out.at2.choose_spec.2; clear hF))
  refine bodyPost_ret (results_cell_row rfl _ _ gr 40 (tf (d.c vd) ca vf vb) (0, 0) _ rfl AF.out Tryd.underlying40 rfl (by rw [tf_size (d.elf HD.out.now.one) HA.out]; kernel_rfl)) rfl ?_
  exact ⟨vd, vf, rfl, HD.out.mv MF.out (fun _ hk => hk.elim), R_old HR.out MF.out (fun _ _ hk => hk), MF.out.weaken (fun _ hk => hk.elim)⟩


end Go.Proofs.YtbndoihcejieoaaDoor.G
namespace Go.Proofs.YtbndoihcejieoaaDoor.G
open Go.RowKit Go.Proofs.YtbndoihcejieoaaDoorW.PrintWords Go.Proofs.YtbndoihcejieoaaDoorW.PrintLast Go.Proofs.YtbndoihcejieoaaDoorW.PrintMore
set_option linter.unusedVariables false
set_option linter.unusedSimpArgs false

theorem exec_build {o : Oper} {a : Act} {W : World} {ty : TypeId} {parts : Array (Nat × Operand)} (ho : o.op = .build ty parts) {cs : Array Value} {vs : List (Nat × Value)} (hb : Tryd.prog.built ty vs = some cs) (hv : (parts.map fun (i, x) => (i, a.eval x)).toList = vs) : (execOp a.eval o).run Tryd.prog W = .ok (.value (.agg cs)) W := by
 subst hv
 unfold execOp
 simp only [ho, Sem.run_bind, run_build W ty _ cs hb, Sem.run_pure, Result.andThen_ok]
theorem built_tf (d : Dep) (a : Arr) (vd v8 v9 v10 : Value) (Uf : Option Addr) (nf kf : Nat) (Ub : Option Addr) (nb kb : Nat) (h : vd.oneCell' = true) (h8 : v8.oneCell' = true) (h9 : v9.oneCell' = true) (h10 : v10.oneCell' = true) :
  Tryd.prog.built 40 [(0, .agg (d.c vd)), (1, .agg (a.c v8 v9 v10)), (2, .slice Uf nf kf), (3, .slice Ub nb kb)] = some (tf (d.c vd) (a.c v8 v9 v10) (.slice Uf nf kf) (.slice Ub nb kb)) := by
 unfold Dep.c Arr.c tf
 kernel_rfl
theorem R_sameS {g : Nat} {W W1 : World} {B : Nat} {P : Nat → Prop} {v : Value} {l : List S89} {T : Array Value} (h : Kd.R k89 89 W B P v l) (hb : W.heap[g]? = some (.cells T 40 (0, 0))) (k : Same g W W1) : Kd.R k89 89 W1 B P v l :=
 Kd.R_mono (Kd.R_step (Kd.R_types h hb (by decide)) (fun i hi _ => k.block i hi.2)) (fun _ hi => hi.1)
def rng (a b : Nat) : Nat → Prop := fun k => a ≤ k ∧ k < b
/-- The transfer is a copy: rows of the call's own, one behind the other. -/
structure St8 (w w3 w4 w5 w6 w7 w8 : World) (g gr : Nat) (t : Tr) (ud u8 u9 u10 uf ub : Value) : Prop where
 lo : Lo 40 w (fun _ => False) w8 g gr (tf (t.d.c ud) (t.a.c u8 u9 u10) uf ub)
 o : Kd.R (Kd.int .i64) 3 w8 w3.heap.size (rng w3.heap.size w4.heap.size) ud t.d.s
 r8 : Kd.R k89 89 w8 w4.heap.size (rng w4.heap.size w5.heap.size) u8 t.a.sl
 r9 : Kd.R (Kd.int .i64) 3 w8 w4.heap.size (rng w4.heap.size w5.heap.size) u9 t.a.se
 r10 : Kd.R (Kd.int .i64) 3 w8 w4.heap.size (rng w4.heap.size w5.heap.size) u10 t.a.fo
 f : Kd.R (Kd.int .i64) 3 w8 w5.heap.size (rng w5.heap.size w6.heap.size) uf t.f
 b : Kd.R (Kd.int .i64) 3 w8 w6.heap.size (rng w6.heap.size w7.heap.size) ub t.b
 zg : gr < w3.heap.size ∧ g < w3.heap.size
 z3 : w.heap.size ≤ w3.heap.size
 z4 : w3.heap.size ≤ w4.heap.size
 z5 : w4.heap.size ≤ w5.heap.size
 z6 : w5.heap.size ≤ w6.heap.size
 z7 : w6.heap.size ≤ w7.heap.size
 z8 : w8.heap.size = w7.heap.size
/-- A row of one stretch, readable while another stretch (and what is elder) is written. -/
theorem far {α : Type} {d : Kd α} {e B a b n : Nat} {W : World} {v : Value} {l : List α} {Z : Nat → Prop} (h : d.R e W B (rng a b) v l) (hg : n ≤ a) (hz : ∀ k, Z k → k < a ∨ b ≤ k) : RdK d (fun k => Z k ∨ k < n) W v l :=
 RdK.of_R h (fun i hi _ _ hk => by
  have h1 := hi.1
  have h2 := hi.2
  rcases hk with hk | hk
  ·
   have := hz i hk; omega
  ·
   omega)
/-- What a transfer's parts are at the end: readable while what is elder than n is written. -/
structure Out (n : Nat) (W : World) (t : Tr) (ud u8 u9 u10 uf ub : Value) : Prop where
 o : RdK (Kd.int .i64) (fun k => k < n) W ud t.d.s
 a : t.a.RdK (fun k => k < n) W u8 u9 u10
 f : RdK (Kd.int .i64) (fun k => k < n) W uf t.f
 b : RdK (Kd.int .i64) (fun k => k < n) W ub t.b
theorem Out.mv {n : Nat} {P : Nat → Prop} {W W1 : World} {t : Tr} {ud u8 u9 u10 uf ub : Value} (h : Out n W t ud u8 u9 u10 uf ub) (k : Mv P W W1) (hp : ∀ i, P i → i < n) : Out n W1 t ud u8 u9 u10 uf ub := ⟨h.o.mv k hp, h.a.mv k hp, h.f.mv k hp, h.b.mv k hp⟩
theorem Out.anti {n m : Nat} {W : World} {t : Tr} {ud u8 u9 u10 uf ub : Value} (h : Out n W t ud u8 u9 u10 uf ub) (hn : m ≤ n) : Out m W t ud u8 u9 u10 uf ub :=
 have q : ∀ i, i < m → i < n := fun i hi => Nat.lt_of_lt_of_le hi hn
 ⟨h.o.anti q, h.a.anti q, h.f.anti q, h.b.anti q⟩
section
variable {w w3 w4 w5 w6 w7 w8 W W1 : World} {g gr : Nat} {t t' : Tr} {ud u8 u9 u10 uf ub vd v8 v9 v10 vf vb : Value}
/-- What holds while one stretch Z (and what is elder) is written: all rows of the other stretches. -/
theorem St8.kZ (h : St8 w w3 w4 w5 w6 w7 w8 g gr t ud u8 u9 u10 uf ub) {Z : Nat → Prop} (hz : ∀ k, Z k → w5.heap.size ≤ k) : RdK (Kd.int .i64) (fun k => Z k ∨ k < w3.heap.size) w8 ud t.d.s ∧ t.a.RdK (fun k => Z k ∨ k < w3.heap.size) w8 u8 u9 u10 := by
 have h1 := h.zg; have h3 := h.z3; have h4 := h.z4; have h5 := h.z5
 exact ⟨far h.o (Nat.le_refl _) (fun k hk => by have := hz k hk; omega), far h.r8 (by omega) (fun k hk => .inr (hz k hk)), far h.r9 (by omega) (fun k hk => .inr (hz k hk)), far h.r10 (by omega) (fun k hk => .inr (hz k hk))⟩
theorem St8.fB (h : St8 w w3 w4 w5 w6 w7 w8 g gr t ud u8 u9 u10 uf ub) : RdK (Kd.int .i64) (fun k => rng w6.heap.size w7.heap.size k ∨ k < w3.heap.size) w8 uf t.f := by
 have h1 := h.zg; have h3 := h.z3; have h4 := h.z4; have h5 := h.z5
 exact far h.f (by omega) (fun k hk => .inr hk.1)
theorem St8.bF (h : St8 w w3 w4 w5 w6 w7 w8 g gr t ud u8 u9 u10 uf ub) : RdK (Kd.int .i64) (fun k => rng w5.heap.size w6.heap.size k ∨ k < w3.heap.size) w8 ub t.b := by
 have h1 := h.zg; have h3 := h.z3; have h4 := h.z4; have h5 := h.z5; have h6 := h.z6
 exact far h.b (by omega) (fun k hk => .inl hk.2)
theorem St8.bN (h : St8 w w3 w4 w5 w6 w7 w8 g gr t ud u8 u9 u10 uf ub) : RdK (Kd.int .i64) (fun k => k < w3.heap.size) w8 ub t.b := h.bF.anti (fun _ hk => .inr hk)
theorem St8.out (h : St8 w w3 w4 w5 w6 w7 w8 g gr t ud u8 u9 u10 uf ub) : Out w3.heap.size w8 t ud u8 u9 u10 uf ub :=
 have k := h.kZ (Z := fun _ => False) (fun _ hk => hk.elim)
 ⟨k.1.anti (fun _ hk => .inr hk), k.2.anti (fun _ hk => .inr hk), h.fB.anti (fun _ hk => .inr hk), h.bN⟩
theorem St8.hqF (h : St8 w w3 w4 w5 w6 w7 w8 g gr t ud u8 u9 u10 uf ub) : ∀ i, (rng w5.heap.size w6.heap.size i ∨ i < w3.heap.size) → i < w8.heap.size := fun i hi => by
 have h1 := h.zg; have h3 := h.z3; have h4 := h.z4; have h5 := h.z5; have h6 := h.z6; have h7 := h.z7; have h8 := h.z8
 rcases hi with hi | hi
 ·
  have h9 := hi.2; omega
 ·
  omega
theorem St8.hqB (h : St8 w w3 w4 w5 w6 w7 w8 g gr t ud u8 u9 u10 uf ub) : ∀ i, (rng w6.heap.size w7.heap.size i ∨ i < w3.heap.size) → i < w8.heap.size := fun i hi => by
 have h1 := h.zg; have h3 := h.z3; have h4 := h.z4; have h5 := h.z5; have h6 := h.z6; have h7 := h.z7; have h8 := h.z8
 rcases hi with hi | hi
 ·
  have h9 := hi.2; omega
 ·
  omega
theorem St8.sz (h : St8 w w3 w4 w5 w6 w7 w8 g gr t ud u8 u9 u10 uf ub) : w5.heap.size ≤ w8.heap.size ∧ w6.heap.size ≤ w8.heap.size ∧ w3.heap.size ≤ w5.heap.size := by
 have h1 := h.zg; have h3 := h.z3; have h4 := h.z4; have h5 := h.z5; have h6 := h.z6; have h7 := h.z7; have h8 := h.z8
 exact ⟨by omega, by omega, by omega⟩
/-- A stretch from w5 on is written. -/
theorem St8.go (h : St8 w w3 w4 w5 w6 w7 w8 g gr t ud u8 u9 u10 uf ub) {Z : Nat → Prop} (hz : ∀ k, Z k → w5.heap.size ≤ k) (m : Mv Z w8 W) : Lo 40 w (fun _ => False) W g gr (tf (t.d.c ud) (t.a.c u8 u9 u10) uf ub) := by
 have h1 := h.zg; have h3 := h.z3; have h4 := h.z4; have h5 := h.z5
 exact h.lo.mv m (fun k hk => by have := hz k hk; exact ⟨.inr (by omega), by omega, by omega⟩)
theorem rngF (a b c : Nat) (h : c ≤ a) : ∀ k, rng a b k → c ≤ k := fun k hk => Nat.le_trans h hk.1
/-- The end: the result's block has been written. -/
theorem St8.fin (h : St8 w w3 w4 w5 w6 w7 w8 g gr t ud u8 u9 u10 uf ub) {vd v8 v9 v10 vf vb : Value} (o : Out w3.heap.size W t' vd v8 v9 v10 vf vb) (k : Same gr W W1) : Out w.heap.size W1 t' vd v8 v9 v10 vf vb :=
 (o.mv (Mv.same (fun i => i = gr) rfl k) (fun i hi => by rw [hi]; exact h.zg.1)).anti h.z3
theorem Lo.fin {cs : Array Value} (h : Lo 40 w (fun _ => False) W g gr cs) (k : Same gr W W1) : Below w.heap.size w W1 := (h.done k).below (Nat.le_refl _) (fun _ hk => hk.elim)
theorem Lo.res {cs : Array Value} {cd ca : Array Value} (h : Lo 40 w (fun _ => False) W g gr cs) (hcs : cs.size = 24) (hd : Elf cd) (ha : Elf ca) (hf : vf.oneCell' = true) (hb : vb.oneCell' = true) :
  ∃ W1, (Instr.storeAt 40 (.pointer (some ⟨gr, 0, none⟩)) (.agg (tf cd ca vf vb))).run Tryd.prog W = .ok () W1 ∧ W1.heap[gr]? = some (.cells (tf cd ca vf vb) 40 (0, 0)) ∧ Same gr W W1 := by
 obtain ⟨old, ho, h2⟩ := h.at2
 exact store_all h2 (ho.trans hcs) hd ha hf hb
/-- A row that was appended to is none of what is elder. -/
theorem ownK {B n : Nat} {P : Nat → Prop} {l : List Int} (h : Kd.R (Kd.int .i64) 3 W B (fun k => P k ∨ w8.heap.size ≤ k) vf l) (hP : ∀ k, P k → n ≤ k) (hg : n ≤ w8.heap.size) : RdK (Kd.int .i64) (fun k => k < n) W vf l :=
 RdK.of_R h (fun i hi _ _ hk => by
  rcases hi with hi | hi
  ·
   have := hP _ hi; omega
  ·
   omega)
end
end Go.Proofs.YtbndoihcejieoaaDoor.G
namespace Go.Proofs.YtbndoihcejieoaaDoor.G
open Go.RowKit Go.Proofs.YtbndoihcejieoaaDoorW.PrintWords Go.Proofs.YtbndoihcejieoaaDoorW.PrintLast Go.Proofs.YtbndoihcejieoaaDoorW.PrintMore
attribute [local go_sem] max2_int min2_int max_two min_two max_three min_three max_four min_four   -- for this text's walks alone
set_option linter.unusedVariables false
set_option linter.unusedSimpArgs false

def step_T1 : Bool × List (List Nat × List Nat) := (true, [([], []), ([0], [0]), ([1], [1]), ([], []), ([3], [3]), ([4, 2], [4]), ([], []), ([6], [6]), ([7, 5], [7]), ([], []), ([9], [9]), ([10, 8], [10]), ([2, 5, 8, 11], [2, 5, 8, 11]), ([12, 11, 0, 1, 2, 3, 4, 5, 6, 7, 8, 9, 10, 11, 12], [12])])
def step_B1 : List Nat := [0, 1, 3, 0, 8, 31, 0, 64, 255, 0, 512, 2047, 4095, 8191]
theorem step_tab1 : rtab .any (opsOf Tryd.f18 1) = step_T1 := by kernel_rfl
theorem step_bits1 : waitsOk step_T1.2 step_B1 = true := by kernel_rfl
theorem decidedT_d (t : Tr) (g : Bool) : (decidedT t g).d = (if t.d.a5 = 1 then decD t.d g else t.d) := by unfold decidedT; split <;> rfl
theorem decidedT_a (t : Tr) (g : Bool) : (decidedT t g).a = t.a := by unfold decidedT; split <;> rfl
theorem decidedT_b (t : Tr) (g : Bool) : (decidedT t g).b = t.b := by unfold decidedT; split <;> rfl
theorem decidedT_f (t : Tr) (g : Bool) : (decidedT t g).f = (if t.d.a5 = 1 ∧ g = true then t.f ++ [1] else t.f) := by
 unfold decidedT
 by_cases c : t.d.a5 = 1
 ·
  cases g <;> simp [c]
 ·
  simp [c]
theorem forthT_d (t : Tr) (x : Int) (l : List Int) : (forthT t x l).d = t.d := by unfold forthT metT; split <;> (try split) <;> rfl
theorem forthT_f (t : Tr) (x : Int) (l : List Int) : (forthT t x l).f = l := by unfold forthT metT; split <;> (try split) <;> rfl
set_option maxHeartbeats 8000000 in
set_option maxRecDepth 100000 in
theorem step_calls (t : Tr) (action : Int) (vd v8 v9 v10 vf vb : Value) (w : World) (hd : Rd (Kd.int .i64) w vd t.d.s) (ha : t.a.Rd w v8 v9 v10) (hf : Rd (Kd.int .i64) w vf t.f) (hb : Rd (Kd.int .i64) w vb t.b) (hF : t.Fits) (hG : GL_changes w) :
  Calls Tryd.prog 18 #[.agg (tf (t.d.c vd) (t.a.c v8 v9 v10) vf vb), .int .i64 action] w fun e w' => ∃ ud u8 u9 u10 uf ub : Value, e = .returned (.agg (tf ((stepT t action).d.c ud) ((stepT t action).a.c u8 u9 u10) uf ub)) ∧ Out w.heap.size w' (stepT t action) ud u8 u9 u10 uf ub ∧ Below w.heap.size w w' := by
 obtain ⟨Af, cf, rfl, hcf, hrf⟩ := hf
 obtain ⟨Ab, cb, rfl, hcb, hrb⟩ := hb
 have HD := Aside0.mk hd
 have HA := Aside0.mk ha
 have HF := Aside0.mk (And.intro hrf hcf)
 have HB := Aside0.mk (And.intro hrb hcb)
 have HFi := Aside0.mk hF
 have HG := Aside0.mk hG
 clear hd ha hcf hrf hcb hrb hF hG
 have hu40 := Tryd.underlying40
 have hu38 := Tryd.underlying38
 have hu27 := Tryd.underlying27
 generalize ht : stepT t action = t'
 have HT := Aside0.mk ht
 clear ht
 go_enter Tryd.func18, Tryd.ntmps18
 try go_wp2_with (first
  | ((with_reducible refine gate_dst (N := 2) rfl ?_); refine box_event rfl (N := 2) rfl (cs := tf (t.d.c vd) (t.a.c v8 v9 v10) (.slice Af t.f.length cf) (.slice Ab t.b.length cb)) (t := 40) ?hr ?_; (case hr => first | (go_simp; done) | (go_simp; rfl)); intro g hg w1 h1 b1; have G1 := Aside0.mk (And.intro hg (And.intro h1 b1)); clear hg h1 b1)
  | ((with_reducible refine gate_dst (N := 4) rfl ?_); refine box_event rfl (N := 4) rfl (cs := zero24) (t := 40) ?hr ?_; (case hr => first | (go_simp; done) | (go_simp; rfl)); intro gr hg w2 h1 b1; have L := Aside0.mk (Lo.start G1.out.1 G1.out.2.1 G1.out.2.2 hg h1 (zero24_size.trans (tf_size (t.d.elf HD.out.one) (t.a.elf HA.out.r8.one HA.out.r9.one HA.out.r10.one)).symm) b1 (fun _ => False)); clear hg h1 b1 G1))
 have L3 := Aside0.mk (L.out.below (Below.refl _ _).drew)
 clear L
 refine start_ (n := 14) (S := fun w' => w'.heap[g]? = some (.cells (tf (t.d.c vd) (t.a.c v8 v9 v10) (.slice Af t.f.length cf) (.slice Ab t.b.length cb)) 40 (0, 0))) (ds := [13]) (bmask 14 0) (by kernel_rfl) rfl (by kernel_rfl) L3.out.at1 (fun hHeld => ?_); refine with_tabW step_tab1 step_bits1 (fun HT_ HW_ => ?_)
 generalize w2.drew = w3 at L3 hHeld ⊢
 refine pure_ (i := 0) (N := some 7) (v := ?_) (a' := ?_) (bmask 14 1) rfl rfl (any_of HT_.out (by kernel_rfl)) (fun _ _ _ h => h) (Or.inl ⟨by rfl, ?_⟩) ?_ ?_
 rotate_left
 ·
  intro w'
  go_simp
  with_reducible rfl
 rotate_left
 ·
  simp only [Act.put, List.setIfInBounds_toArray, List.set_cons_zero, List.set_cons_succ, i64_w, i32_w]
  rfl
 refine pure_ (i := 3) (N := some 10) (v := ?_) (a' := ?_) (bmask 14 9) rfl rfl (any_of HT_.out (by kernel_rfl)) (fun _ _ _ h => h) (Or.inl ⟨by rfl, ?_⟩) ?_ ?_
 rotate_left
 ·
  intro w'
  go_simp
  with_reducible rfl
 rotate_left
 ·
  simp only [Act.put, List.setIfInBounds_toArray, List.set_cons_zero, List.set_cons_succ, i64_w, i32_w]
  rfl
 refine pure_ (i := 6) (N := some 13) (v := ?_) (a' := ?_) (bmask 14 73) rfl rfl (any_of HT_.out (by kernel_rfl)) (fun _ _ _ h => h) (Or.inl ⟨by rfl, ?_⟩) ?_ ?_
 rotate_left
 ·
  intro w'
  go_simp
  with_reducible rfl
 rotate_left
 ·
  simp only [Act.put, List.setIfInBounds_toArray, List.set_cons_zero, List.set_cons_succ, i64_w, i32_w]
  rfl
 refine pure_ (i := 9) (N := some 16) (v := ?_) (a' := ?_) (bmask 14 585) rfl rfl (any_of HT_.out (by kernel_rfl)) (fun _ _ _ h => h) (Or.inl ⟨by rfl, ?_⟩) ?_ ?_
 rotate_left
 ·
  intro w'
  go_simp
  with_reducible rfl
 rotate_left
 ·
  simp only [Act.put, List.setIfInBounds_toArray, List.set_cons_zero, List.set_cons_succ, i64_w, i32_w]
  rfl
 refine take_ (i := 1) (N := some 8) (v := .agg (t.d.c vd)) (a' := ?_) (bmask 14 587) rfl rfl (take_ofW HT_.out HW_.out (by kernel_rfl)) (fun _ _ _ h => h) (Or.inl ⟨by rfl, fun w' hs => by
   exact exec_load rfl (q := .pointer (some ⟨g, 0, none⟩)) rfl (load_dep hs (t.d.elf HD.out.one))⟩) hHeld ?_ ?_
 rotate_left
 ·
  simp only [Act.put, List.setIfInBounds_toArray, List.set_cons_zero, List.set_cons_succ, i64_w, i32_w]
  rfl
 refine take_ (i := 4) (N := some 11) (v := .agg (t.a.c v8 v9 v10)) (a' := ?_) (bmask 14 603) rfl rfl (take_ofW HT_.out HW_.out (by kernel_rfl)) (fun _ _ _ h => h) (Or.inl ⟨by rfl, fun w' hs => by
   exact exec_load rfl (q := .pointer (some ⟨g, 11, none⟩)) rfl (load_arr hs (t.d.elf HD.out.one) (t.a.elf HA.out.r8.one HA.out.r9.one HA.out.r10.one))⟩) hHeld ?_ ?_
 rotate_left
 ·
  simp only [Act.put, List.setIfInBounds_toArray, List.set_cons_zero, List.set_cons_succ, i64_w, i32_w]
  rfl
 refine take_ (i := 7) (N := some 14) (v := (.slice Af t.f.length cf)) (a' := ?_) (bmask 14 731) rfl rfl (take_ofW HT_.out HW_.out (by kernel_rfl)) (fun _ _ _ h => h) (Or.inl ⟨by rfl, fun w' hs => by
   have hc := cell_f hs (t.d.elf HD.out.one) (t.a.elf HA.out.r8.one HA.out.r9.one HA.out.r10.one)
   go_simp⟩) hHeld ?_ ?_
 rotate_left
 ·
  simp only [Act.put, List.setIfInBounds_toArray, List.set_cons_zero, List.set_cons_succ, i64_w, i32_w]
  rfl
 refine take_ (i := 10) (N := some 17) (v := (.slice Ab t.b.length cb)) (a' := ?_) (bmask 14 1755) rfl rfl (take_ofW HT_.out HW_.out (by kernel_rfl)) (fun _ _ _ h => h) (Or.inl ⟨by rfl, fun w' hs => by
   have hc := cell_b hs (t.d.elf HD.out.one) (t.a.elf HA.out.r8.one HA.out.r9.one HA.out.r10.one)
   go_simp⟩) hHeld ?_ ?_
 rotate_left
 ·
  simp only [Act.put, List.setIfInBounds_toArray, List.set_cons_zero, List.set_cons_succ, i64_w, i32_w]
  rfl
 refine one_ (i := 2) (N := some 9) (bmask 14 1759) rfl rfl (one_of HT_.out (by kernel_rfl)) (by decide) (fun K hK => ?_)
 refine goes_ Tryd.func45 (by kernel_rfl) rfl #[.agg (t.d.c vd)] (by rfl) rfl rfl (by (try simp only [List.map_toArray, List.map_cons, List.map_nil]); first | done | rfl) ?_
 refine (departed_w t.d (HD.out.below (L3.out.mv0.below (Nat.le_refl _) (fun _ hk => hk.elim))) HFi.out.s).mono ?_
 rintro e w4 ⟨ud, rfl, ho, hb⟩
 refine ⟨_, rfl, ?_⟩
 have O4 := Aside0.mk ho
 have L4 := Aside0.mk (L3.out.below hb)
 have Z4 := Aside0.mk hb.size
 have Z3 := Aside0.mk L3.out.kept.1
 have ZG := Aside0.mk (And.intro (blk_lt L3.out.at2.choose_spec.2) (blk_lt L3.out.at1))
 clear ho hb L3
 refine hK.out _ _ (L4.out.at1) (fun hHeld => ?_)
 clear hK K
 refine norm_ (a' := ?_) ?_ ?_
 rotate_left
 ·
  show Act.put _ (some 9) _ = _
  simp only [Act.put, List.setIfInBounds_toArray, List.set_cons_zero, List.set_cons_succ, i64_w, i32_w]
  rfl
 refine one_ (i := 5) (N := some 12) (bmask 14 1791) rfl rfl (one_of HT_.out (by kernel_rfl)) (by decide) (fun K hK => ?_)
 refine goes_ Tryd.func40 (by kernel_rfl) rfl #[.agg (t.a.c v8 v9 v10)] (by rfl) rfl rfl (by (try simp only [List.map_toArray, List.map_cons, List.map_nil]); first | done | rfl) ?_
 refine (arrived_w t.a (HA.out.below (L4.out.mv0.below (Nat.le_refl _) (fun _ hk => hk.elim))) HFi.out.a).mono ?_
 rintro e w5 ⟨u8, u9, u10, rfl, ho, hb⟩
 refine ⟨_, rfl, ?_⟩
 have U5 := Aside0.mk ho
 have O5 := Aside0.mk (Kd.R_below (Kd.R_bound O4.out) hb)
 have L5 := Aside0.mk (L4.out.below hb)
 have Z5 := Aside0.mk hb.size
 clear ho hb L4 O4
 refine hK.out _ _ (L5.out.at1) (fun hHeld => ?_)
 clear hK K
 refine norm_ (a' := ?_) ?_ ?_
 rotate_left
 ·
  show Act.put _ (some 12) _ = _
  simp only [Act.put, List.setIfInBounds_toArray, List.set_cons_zero, List.set_cons_succ, i64_w, i32_w]
  rfl
 refine one_ (i := 8) (N := some 15) (bmask 14 2047) rfl rfl (one_of HT_.out (by kernel_rfl)) (by decide) (fun K hK => ?_)
 refine goes_ Tryd.func43 (by kernel_rfl) rfl #[(.slice Af t.f.length cf)] (by rfl) rfl rfl (by (try simp only [List.map_toArray, List.map_cons, List.map_nil]); first | done | rfl) ?_
 refine (slices_Clone_int_int.calls Af cf t.f t.f _ (Kd.C_below HF.out.1 (L5.out.mv0.below (Nat.le_refl _) (fun _ hk => hk.elim))) HF.out.2 (clone_fits HFi.out.f)).mono ?_
 rintro e w6 ⟨uf, rfl, ho, hb⟩
 refine ⟨_, rfl, ?_⟩
 have F6 := Aside0.mk (Kd.R_bound ho)
 have O6 := Aside0.mk (Kd.R_below O5.out hb)
 have U6 := Aside0.mk (And.intro (Kd.R_below (Kd.R_bound U5.out.r8) hb) (And.intro (Kd.R_below (Kd.R_bound U5.out.r9) hb) (Kd.R_below (Kd.R_bound U5.out.r10) hb)))
 have L6 := Aside0.mk (L5.out.below hb)
 have Z6 := Aside0.mk hb.size
 clear ho hb L5 O5 U5
 refine hK.out _ _ (L6.out.at1) (fun hHeld => ?_)
 clear hK K
 refine norm_ (a' := ?_) ?_ ?_
 rotate_left
 ·
  show Act.put _ (some 15) _ = _
  simp only [Act.put, List.setIfInBounds_toArray, List.set_cons_zero, List.set_cons_succ, i64_w, i32_w]
  rfl
 refine one_ (i := 11) (N := some 18) (bmask 14 4095) rfl rfl (one_of HT_.out (by kernel_rfl)) (by decide) (fun K hK => ?_)
 refine goes_ Tryd.func43 (by kernel_rfl) rfl #[(.slice Ab t.b.length cb)] (by rfl) rfl rfl (by (try simp only [List.map_toArray, List.map_cons, List.map_nil]); first | done | rfl) ?_
 refine (slices_Clone_int_int.calls Ab cb t.b t.b _ (Kd.C_below HB.out.1 (L6.out.mv0.below (Nat.le_refl _) (fun _ hk => hk.elim))) HB.out.2 (clone_fits HFi.out.b)).mono ?_
 rintro e w7 ⟨ub, rfl, ho, hb⟩
 refine ⟨_, rfl, ?_⟩
 have B7 := Aside0.mk (Kd.R_bound ho)
 have F7 := Aside0.mk (Kd.R_below F6.out hb)
 have O7 := Aside0.mk (Kd.R_below O6.out hb)
 have U7 := Aside0.mk (And.intro (Kd.R_below U6.out.1 hb) (And.intro (Kd.R_below U6.out.2.1 hb) (Kd.R_below U6.out.2.2 hb)))
 have L7 := Aside0.mk (L6.out.below hb)
 have Z7 := Aside0.mk hb.size
 clear ho hb L6 O6 U6 F6
 obtain ⟨Uf, nf, kf, ef, hnf⟩ : ∃ A n c, uf = .slice A n c ∧ n = t.f.length := ⟨_, _, _, (Kd.R_slice F7.out).choose_spec.choose_spec, rfl⟩
 subst ef
 have NF := Aside0.mk hnf
 clear hnf
 obtain ⟨Ub, nb, kb, eb, hnb⟩ : ∃ A n c, ub = .slice A n c ∧ n = t.b.length := ⟨_, _, _, (Kd.R_slice B7.out).choose_spec.choose_spec, rfl⟩
 subst eb
 have NB := Aside0.mk hnb
 clear hnb
 refine hK.out _ _ (L7.out.at1) (fun hHeld => ?_)
 clear hK K
 refine norm_ (a' := ?_) ?_ ?_
 rotate_left
 ·
  show Act.put _ (some 18) _ = _
  simp only [Act.put, List.setIfInBounds_toArray, List.set_cons_zero, List.set_cons_succ, i64_w, i32_w]
  rfl
 refine pure_ (i := 12) (N := some 19) (v := .agg (tf (t.d.c ud) (t.a.c u8 u9 u10) (.slice Uf nf kf) (.slice Ub nb kb))) (a' := ?_) (bmask 14 8191) rfl rfl (any_of HT_.out (by kernel_rfl)) (fun _ _ _ h => h) (Or.inl ⟨by rfl, fun w' => exec_build rfl (built_tf t.d t.a ud u8 u9 u10 Uf nf kf Ub nb kb (rone O7.out) (rone U7.out.1) (rone U7.out.2.1) (rone U7.out.2.2)) (by simp only [List.map_toArray, List.map_cons, List.map_nil]; rfl)⟩) ?_ ?_
 rotate_left
 ·
  simp only [Act.put, List.setIfInBounds_toArray, List.set_cons_zero, List.set_cons_succ, i64_w, i32_w]
  rfl
 have e1 := L7.out.at1
 have e2 := (t.d.elf HD.out.one)
 have e3 := (t.a.elf HA.out.r8.one HA.out.r9.one HA.out.r10.one)
 have e4 := (t.d.elf (rone O7.out))
 have e5 := (t.a.elf (rone U7.out.1) (rone U7.out.2.1) (rone U7.out.2.2))
 have e6 := tf_size (vf := (.slice Af t.f.length cf)) (vb := (.slice Ab t.b.length cb)) e2 e3
 have e8 := tf_size (vf := .slice Uf nf kf) (vb := .slice Ub nb kb) e4 e5
 have e7 := store_all (vf := .slice Uf nf kf) (vb := .slice Ub nb kb) e1 e6 e4 e5 rfl rfl
 obtain ⟨w8, hh⟩ := e7
 have hr := hh.1
 have hF := hh.2
 clear hh
 have C8 := Aside0.mk (St8.mk (L7.out.same hF.1 (e8.trans e6.symm) hF.2) (Kd.R_mono (R_same O7.out e1 (by decide) hF.2) (fun _ hk => ⟨hk.2.1, hk.2.2.1⟩)) (Kd.R_mono (R_sameS U7.out.1 e1 hF.2) (fun _ hk => ⟨hk.2.1, hk.2.2.1⟩)) (Kd.R_mono (R_same U7.out.2.1 e1 (by decide) hF.2) (fun _ hk => ⟨hk.2.1, hk.2.2.1⟩)) (Kd.R_mono (R_same U7.out.2.2 e1 (by decide) hF.2) (fun _ hk => ⟨hk.2.1, hk.2.2.1⟩)) (Kd.R_mono (R_same F7.out e1 (by decide) hF.2) (fun _ hk => ⟨hk.2.1, hk.2.2.1⟩)) (Kd.R_mono (R_same B7.out e1 (by decide) hF.2) (fun _ hk => ⟨hk.2.1, hk.2.2.1⟩)) ZG.out Z3.out Z4.out Z5.out Z6.out Z7.out hF.2.size)
 refine last_store (i := 13) (w1 := w8) (bmask 14 16383) rfl rfl (one_of HT_.out (by kernel_rfl)) (by decide) (by rfl) (exec_store rfl (q := .pointer (some ⟨g, 0, none⟩)) (v := .agg (tf (t.d.c ud) (t.a.c u8 u9 u10) (.slice Uf nf kf) (.slice Ub nb kb))) rfl rfl hr) ?_
 clear hr hF e1 e2 e3 e4 e5 e6 e8 L7 O7 U7 F7 B7 Z3 ZG Z4 Z5 Z6 Z7
 refine done_ (done_of HT_.out (by kernel_rfl)) ?_
 by_cases c1 : action = 1
 ·
  subst c1
  go_wp2_with (first
   | ((with_reducible refine gate_dst (N := 24) rfl ?_); refine ev_load rfl (N := 24) rfl rfl (q := .pointer (some ⟨g, 0, none⟩)) (v := .agg (tf (t.d.c ud) (t.a.c u8 u9 u10) (.slice Uf nf kf) (.slice Ub nb kb))) rfl (load_all C8.out.lo.at1 (t.d.elf (rone C8.out.o)) (t.a.elf (rone C8.out.r8) (rone C8.out.r9) (rone C8.out.r10))) ?_)
   | (go_at_call 46; refine (decided_calls t.d true (t.a.c u8 u9 u10) (t.a.elf (rone C8.out.r8) (rone C8.out.r9) (rone C8.out.r10)) ud (.slice Uf nf kf) (.slice Ub nb kb) t.f w5.heap.size (rng w5.heap.size w6.heap.size) (fun k => rng w5.heap.size w6.heap.size k ∨ k < w3.heap.size) w8 C8.out.hqF (C8.out.kZ (rngF _ _ _ (Nat.le_refl _))).1 HFi.out.s C8.out.f HFi.out.f rfl C8.out.sz.1).mono ?_; rintro _ w9 ⟨vd', vf', rfl, hd9, hf9, hm9⟩; have D9 := Aside0.mk hd9; have F9 := Aside0.mk hf9; have L9 := Aside0.mk (C8.out.go (rngF _ _ _ (Nat.le_refl _)) hm9); have O9 : Aside0 (Out w3.heap.size w9 (decidedT t true) vd' u8 u9 u10 vf' (.slice Ub nb kb)) := ⟨⟨by rw [decidedT_d]; exact hd9.anti (fun _ hk => .inr hk), by rw [decidedT_a]; exact ((C8.out.kZ (rngF _ _ _ (Nat.le_refl _))).2.mv hm9 (fun _ hk => .inl hk)).anti (fun _ hk => .inr hk), by rw [decidedT_f]; exact ownK hf9 (fun k hk => Nat.le_trans C8.out.sz.2.2 hk.1) (Nat.le_trans C8.out.sz.2.2 C8.out.sz.1), by rw [decidedT_b]; exact (C8.out.bF.mv hm9 (fun _ hk => .inl hk)).anti (fun _ hk => .inr hk)⟩⟩; clear hd9 hf9 hm9)
   | ((with_reducible refine gate_store (t := 40) (p := 4) rfl ?_); refine ev_store rfl (ty := 40) (p := 4) rfl rfl (q := .pointer (some ⟨gr, 0, none⟩)) (v := .agg (tf ((if t.d.a5 = 1 then decD t.d true else t.d).c vd') (t.a.c u8 u9 u10) vf' (.slice Ub nb kb))) rfl rfl (L9.out.res (tf_size (t.d.elf (rone C8.out.o)) (t.a.elf (rone C8.out.r8) (rone C8.out.r9) (rone C8.out.r10))) (Dep.elf _ D9.out.now.one) (t.a.elf (rone C8.out.r8) (rone C8.out.r9) (rone C8.out.r10)) (rone F9.out) rfl) ?_; intro wz hF; have AF := Aside0.mk hF.1; have RF := Aside0.mk (C8.out.fin O9.out hF.2); have MF := Aside0.mk (L9.out.fin hF.2); clear hF))
  all_goals (refine bodyPost_ret (results_cell_row rfl _ _ gr 40 (tf ((if t.d.a5 = 1 then decD t.d true else t.d).c vd') (t.a.c u8 u9 u10) vf' (.slice Ub nb kb)) (0, 0) _ rfl AF.out Tryd.underlying40 rfl (by rw [tf_size (Dep.elf _ D9.out.now.one) (t.a.elf (rone C8.out.r8) (rone C8.out.r9) (rone C8.out.r10))]; kernel_rfl)) rfl ?_)
  all_goals (obtain rfl : decidedT t true = t' := Eq.trans (rfl) HT.out)
  all_goals (exact ⟨vd', u8, u9, u10, vf', (.slice Ub nb kb), by first | rw [decidedT_d, decidedT_a] | simp_all [decidedT_d, decidedT_a], RF.out, MF.out⟩)
 ·
  have e1 : (action == 1) = false := beq_eq_false_iff_ne.mpr c1
  by_cases c2 : action = 2
  ·
   subst c2
   go_wp2_with (first
    | ((with_reducible refine gate_dst (N := 24) rfl ?_); refine ev_load rfl (N := 24) rfl rfl (q := .pointer (some ⟨g, 0, none⟩)) (v := .agg (tf (t.d.c ud) (t.a.c u8 u9 u10) (.slice Uf nf kf) (.slice Ub nb kb))) rfl (load_all C8.out.lo.at1 (t.d.elf (rone C8.out.o)) (t.a.elf (rone C8.out.r8) (rone C8.out.r9) (rone C8.out.r10))) ?_)
    | (go_at_call 46; refine (decided_calls t.d false (t.a.c u8 u9 u10) (t.a.elf (rone C8.out.r8) (rone C8.out.r9) (rone C8.out.r10)) ud (.slice Uf nf kf) (.slice Ub nb kb) t.f w5.heap.size (rng w5.heap.size w6.heap.size) (fun k => rng w5.heap.size w6.heap.size k ∨ k < w3.heap.size) w8 C8.out.hqF (C8.out.kZ (rngF _ _ _ (Nat.le_refl _))).1 HFi.out.s C8.out.f HFi.out.f rfl C8.out.sz.1).mono ?_; rintro _ w9 ⟨vd', vf', rfl, hd9, hf9, hm9⟩; have D9 := Aside0.mk hd9; have F9 := Aside0.mk hf9; have L9 := Aside0.mk (C8.out.go (rngF _ _ _ (Nat.le_refl _)) hm9); have O9 : Aside0 (Out w3.heap.size w9 (decidedT t false) vd' u8 u9 u10 vf' (.slice Ub nb kb)) := ⟨⟨by rw [decidedT_d]; exact hd9.anti (fun _ hk => .inr hk), by rw [decidedT_a]; exact ((C8.out.kZ (rngF _ _ _ (Nat.le_refl _))).2.mv hm9 (fun _ hk => .inl hk)).anti (fun _ hk => .inr hk), by rw [decidedT_f]; exact ownK hf9 (fun k hk => Nat.le_trans C8.out.sz.2.2 hk.1) (Nat.le_trans C8.out.sz.2.2 C8.out.sz.1), by rw [decidedT_b]; exact (C8.out.bF.mv hm9 (fun _ hk => .inl hk)).anti (fun _ hk => .inr hk)⟩⟩; clear hd9 hf9 hm9)
    | ((with_reducible refine gate_store (t := 40) (p := 4) rfl ?_); refine ev_store rfl (ty := 40) (p := 4) rfl rfl (q := .pointer (some ⟨gr, 0, none⟩)) (v := .agg (tf ((if t.d.a5 = 1 then decD t.d false else t.d).c vd') (t.a.c u8 u9 u10) vf' (.slice Ub nb kb))) rfl rfl (L9.out.res (tf_size (t.d.elf (rone C8.out.o)) (t.a.elf (rone C8.out.r8) (rone C8.out.r9) (rone C8.out.r10))) (Dep.elf _ D9.out.now.one) (t.a.elf (rone C8.out.r8) (rone C8.out.r9) (rone C8.out.r10)) (rone F9.out) rfl) ?_; intro wz hF; have AF := Aside0.mk hF.1; have RF := Aside0.mk (C8.out.fin O9.out hF.2); have MF := Aside0.mk (L9.out.fin hF.2); clear hF))
   all_goals (refine bodyPost_ret (results_cell_row rfl _ _ gr 40 (tf ((if t.d.a5 = 1 then decD t.d false else t.d).c vd') (t.a.c u8 u9 u10) vf' (.slice Ub nb kb)) (0, 0) _ rfl AF.out Tryd.underlying40 rfl (by rw [tf_size (Dep.elf _ D9.out.now.one) (t.a.elf (rone C8.out.r8) (rone C8.out.r9) (rone C8.out.r10))]; kernel_rfl)) rfl ?_)
   all_goals (obtain rfl : decidedT t false = t' := Eq.trans (rfl) HT.out)
   all_goals (exact ⟨vd', u8, u9, u10, vf', (.slice Ub nb kb), by first | rw [decidedT_d, decidedT_a] | simp_all [decidedT_d, decidedT_a], RF.out, MF.out⟩)
  ·
   have e2 : (action == 2) = false := beq_eq_false_iff_ne.mpr c2
   by_cases c3 : action = 3
   ·
    subst c3
    have hc34 : w8.cell? ⟨g, 0, none⟩ = some (.int .i64 t.d.a0) := cell_dep C8.out.lo.at1 (t.d.elf (rone C8.out.o)) (by decide) rfl
    have hc37 : w8.cell? ⟨g, 10, none⟩ = some ud := cell_dep C8.out.lo.at1 (t.d.elf (rone C8.out.o)) (by decide) rfl
    go_wp2_with (first
     | ((with_reducible refine gate_dst (N := 32) rfl ?_); refine ev_load rfl (N := 32) rfl rfl (q := .pointer (some ⟨g, 11, none⟩)) (v := .agg ((t.a.c u8 u9 u10))) rfl (load_arr C8.out.lo.at1 (t.d.elf (rone C8.out.o)) (t.a.elf (rone C8.out.r8) (rone C8.out.r9) (rone C8.out.r10))) ?_)
     | (go_at_call 11; refine (arrive_w t.a t.d.a0 t.d.s C8.out.out.a.now HFi.out.a C8.out.out.o.now HFi.out.s (HG.out.of_below (C8.out.lo.mv0.below (Nat.le_refl _) (fun _ hk => hk.elim)))).mono ?_; rintro _ w9 ⟨x8, x9, x10, rfl, ho, hb⟩; have U9 := Aside0.mk ho; have L9 := Aside0.mk (C8.out.lo.below hb); have b9 := Aside0.mk hb; have K9 := Aside0.mk (ho.rdk (P := fun k => rng w6.heap.size w7.heap.size k ∨ k < w3.heap.size ∨ w9.heap.size ≤ k) (fun i hi => by rcases hi with hi | hi | hi; exact .inl (C8.out.hqB i (.inl hi)); exact .inl (C8.out.hqB i (.inr hi)); exact .inr hi)); clear ho hb hc34 hc37)
     | ((with_reducible refine gate_dst (N := 5) rfl ?_); refine box_event rfl (N := 5) rfl (cs := #[.int .i64 0, .int .i64 0, .int .i64 0, .int .i64 0, .int .i64 0, .string (⟨#[]⟩ : ByteArray), .int .i64 0, .int .i64 0, .slice none 0 0, .slice none 0 0, .slice none 0 0]) (t := 27) ?hr ?_; (case hr => first | (go_simp; done) | (go_simp; rfl)); intro g3 hg wa h1 b1; have La := Aside0.mk (L9.out.below b1); have Aa := Aside0.mk h1; have Na := Aside0.mk (show g3 ≠ g ∧ g3 ≠ gr ∧ g3 = w9.heap.size from ⟨by have := blk_lt L9.out.at1; omega, by have := blk_lt L9.out.at2.choose_spec.2; omega, hg⟩); have Ma := Aside0.mk (Mv.of_below b1 (fun k => rng w6.heap.size w7.heap.size k ∨ k < w3.heap.size ∨ w9.heap.size ≤ k)); have Wa := Aside0.mk (b9.out.trans (b1.mono b9.out.size)); clear hg h1 b1 L9)
     | ((with_reducible refine gate_store (t := 27) (p := 5) rfl ?_); refine ev_store rfl (ty := 27) (p := 5) rfl rfl (q := .pointer (some ⟨g3, 0, none⟩)) (v := .agg ((arrA t.a t.d.a0 t.d.s).1.c x8 x9 x10)) rfl rfl (store_eleven (by kernel_rfl) Aa.out rfl ((arrA t.a t.d.a0 t.d.s).1.elf (rone U9.out.r8) (rone U9.out.r9) (rone U9.out.r10))) ?_; intro wb hF; have Lb := Aside0.mk (La.out.mv (Mv.same (fun k => k = g3) rfl hF.2) (fun k hk => by rw [hk]; exact ⟨.inr (by rw [Na.out.2.2]; exact Nat.le_trans C8.out.lo.kept.1 b9.out.size), Na.out.1, Na.out.2.1⟩)); have Ab := Aside0.mk hF.1; have Mb := Aside0.mk (Ma.out.then_ (Mv.same (fun k => k = g3) rfl hF.2) (fun k hk => .inl (.inr (.inr (by rw [hk, Na.out.2.2]; exact Nat.le_refl _))))); have Wb := Aside0.mk (Mv.then_ (Mv.of_below Wa.out (fun _ => False)) (Mv.same (fun k => k = g3) rfl hF.2) (fun k hk => .inr (by rw [hk, Na.out.2.2]; exact b9.out.size))); clear hF La Aa Ma Wa)
     | ((with_reducible refine gate_dst (N := 42) rfl ?_); refine ev_load rfl (N := 42) rfl rfl (q := .pointer (some ⟨g, 0, none⟩)) (v := .agg (tf (t.d.c ud) (t.a.c u8 u9 u10) (.slice Uf nf kf) (.slice Ub nb kb))) rfl (load_all Lb.out.at1 (t.d.elf (rone C8.out.o)) (t.a.elf (rone C8.out.r8) (rone C8.out.r9) (rone C8.out.r10))) ?_)
     | ((with_reducible refine gate_dst (N := 43) rfl ?_); refine ev_load rfl (N := 43) rfl rfl (q := .pointer (some ⟨g3, 0, none⟩)) (v := .agg ((arrA t.a t.d.a0 t.d.s).1.c x8 x9 x10)) rfl (load_whole Ab.out ((arrA t.a t.d.a0 t.d.s).1.elf (rone U9.out.r8) (rone U9.out.r9) (rone U9.out.r10))) ?_)
     | (go_at_call 47; refine (met_calls (t.d.c ud) (t.a.c u8 u9 u10) ((arrA t.a t.d.a0 t.d.s).1.c x8 x9 x10) (t.d.elf (rone C8.out.o)) (t.a.elf (rone C8.out.r8) (rone C8.out.r9) (rone C8.out.r10)) ((arrA t.a t.d.a0 t.d.s).1.elf (rone U9.out.r8) (rone U9.out.r9) (rone U9.out.r10)) (.slice Uf nf kf) (.slice Ub nb kb) rfl (arrA t.a t.d.a0 t.d.s).1.b3 rfl (arrA t.a t.d.a0 t.d.s).2 w6.heap.size (rng w6.heap.size w7.heap.size) t.b _ (Kd.R_step C8.out.b (fun i _ hlt => Wb.out.kept.2 i hlt (fun hk => hk.elim))) (by have := HFi.out.b; omega) (Nat.le_trans C8.out.sz.2.1 Wb.out.kept.1)).mono ?_; rintro _ wc ⟨v1, rfl, ho, hm⟩; have Lc := Aside0.mk (Lb.out.mv hm (fun k hk => by have h1 := C8.out.zg; have h3 := C8.out.z3; have h4 := C8.out.z4; have h5 := C8.out.z5; have h6 := C8.out.z6; have h7 : _ ≤ k := hk.1; exact ⟨.inr (by omega), by omega, by omega⟩)); have Vc := Aside0.mk ho; have Oc : Aside0 (Out w3.heap.size wc (metT t (arrA t.a t.d.a0 t.d.s).1 (arrA t.a t.d.a0 t.d.s).2) ud x8 x9 x10 (.slice Uf nf kf) v1) := ⟨⟨(((C8.out.kZ (Z := rng w6.heap.size w7.heap.size) (rngF _ _ _ C8.out.z6)).1.mv Wb.out (fun _ hk => hk.elim)).mv hm (fun _ hk => .inl hk)).anti (fun _ hk => .inr hk), ((K9.out.mv Mb.out (fun _ hk => hk)).mv hm (fun _ hk => .inl hk)).anti (fun _ hk => .inr (.inl hk)), ((C8.out.fB.mv Wb.out (fun _ hk => hk.elim)).mv hm (fun _ hk => .inl hk)).anti (fun _ hk => .inr hk), ownK (w8 := w8) (Kd.R_mono ho (fun k hk => hk.elim .inl (fun h => .inr (Nat.le_trans Wb.out.kept.1 h)))) (fun k hk => Nat.le_trans C8.out.sz.2.2 (Nat.le_trans C8.out.z6 hk.1)) (Nat.le_trans C8.out.sz.2.2 C8.out.sz.1)⟩⟩; clear ho hm Lb Ab Mb)
     | ((with_reducible refine gate_store (t := 40) (p := 4) rfl ?_); refine ev_store rfl (ty := 40) (p := 4) rfl rfl (q := .pointer (some ⟨gr, 0, none⟩)) (v := .agg (tf (t.d.c ud) ((arrA t.a t.d.a0 t.d.s).1.c x8 x9 x10) (.slice Uf nf kf) v1)) rfl rfl (Lc.out.res (tf_size (t.d.elf (rone C8.out.o)) (t.a.elf (rone C8.out.r8) (rone C8.out.r9) (rone C8.out.r10))) (t.d.elf (rone C8.out.o)) ((arrA t.a t.d.a0 t.d.s).1.elf (rone U9.out.r8) (rone U9.out.r9) (rone U9.out.r10)) rfl (rone Vc.out)) ?_; intro wz hF; have AF := Aside0.mk hF.1; have RF := Aside0.mk (C8.out.fin Oc.out hF.2); have MF := Aside0.mk (Lc.out.fin hF.2); clear hF))
    refine bodyPost_ret (results_cell_row rfl _ _ gr 40 (tf (t.d.c ud) ((arrA t.a t.d.a0 t.d.s).1.c x8 x9 x10) (.slice Uf nf kf) v1) (0, 0) _ rfl AF.out Tryd.underlying40 rfl (by rw [tf_size (t.d.elf (rone C8.out.o)) ((arrA t.a t.d.a0 t.d.s).1.elf (rone U9.out.r8) (rone U9.out.r9) (rone U9.out.r10))]; kernel_rfl)) rfl ?_
    obtain rfl : metT t (arrA t.a t.d.a0 t.d.s).1 (arrA t.a t.d.a0 t.d.s).2 = t' := Eq.trans (rfl) HT.out
    exact ⟨ud, x8, x9, x10, (.slice Uf nf kf), v1, by rfl, RF.out, MF.out⟩
   ·
    have e3 : (action == 3) = false := beq_eq_false_iff_ne.mpr c3
    by_cases c4 : action = 4
    ·
     subst c4
     have hc49 : w8.cell? ⟨g, 5, none⟩ = some (.int .i64 t.d.a5) := cell_dep C8.out.lo.at1 (t.d.elf (rone C8.out.o)) (by decide) rfl
     by_cases c5 : t.d.a5 = 3
     ·
      have e5 : (t.d.a5 == 3) = true := beq_iff_eq.mpr c5
      have H5 := Aside0.mk c5
      have hc52 := cell_f C8.out.lo.at1 (t.d.elf (rone C8.out.o)) (t.a.elf (rone C8.out.r8) (rone C8.out.r9) (rone C8.out.r10))
      clear c5
      go_wp2_with (first
       | ((with_reducible refine gate_builtin (b := .append) (xs := #[.tmp 53, .tmp 54]) rfl ?_); at_builtin; refine Kd.R_append (Kd.int .i64) (w0 := w8) w5.heap.size rfl (.tmp 53) (.tmp 54) 25 3 (.int .i64 0) 8 rfl Tryd.underlying25 info3 rfl (by decide) (by omega) ((.slice Uf nf kf)) t.f 2 [.int .i64 2] (fun k => rng w5.heap.size w6.heap.size k ∨ w8.heap.size ≤ k) (fun _ => False) rfl ?hx rfl (fun _ hk => hk.elim) (fun k hk => .inr hk) (Kd.R_mono C8.out.f (fun _ hk => .inl hk)) (Below.refl _ _) C8.out.sz.1 ?aL ?_; (case hx => first | (go_simp; done) | (go_simp; rfl)); (case aL => have := HFi.out.f; omega); intro v1 w9 ho hb hg hat; have m9 : Mv (rng w5.heap.size w6.heap.size) w8 w9 := ⟨hg.os, hg.tape, hg.output, hg.size, fun i hi hn => hg.block i hi (fun he => hn (C8.out.f.1 i he.symm))⟩; have M9 := Aside0.mk m9; have F9 := Aside0.mk ho; have L9 := Aside0.mk (C8.out.go (rngF _ _ _ (Nat.le_refl _)) m9); clear ho hb hg hat hc52 m9)
       | ((with_reducible refine gate_store (t := 25) (p := 56) rfl ?_); refine ev_store rfl (ty := 25) (p := 56) rfl rfl (q := .pointer (some ⟨g, 22, none⟩)) (v := v1) rfl rfl (store_f L9.out.at1 (t.d.elf (rone C8.out.o)) (t.a.elf (rone C8.out.r8) (rone C8.out.r9) (rone C8.out.r10)) (rone F9.out)) ?_; intro wb hF; have Lb := Aside0.mk (L9.out.same hF.1 ((tf_size (t.d.elf (rone C8.out.o)) (t.a.elf (rone C8.out.r8) (rone C8.out.r9) (rone C8.out.r10))).trans (tf_size (t.d.elf (rone C8.out.o)) (t.a.elf (rone C8.out.r8) (rone C8.out.r9) (rone C8.out.r10))).symm) hF.2); have gW : ∀ k, k = g → k < w5.heap.size := (fun k hk => by have h1 := C8.out.zg; have h4 := C8.out.z4; have h5 := C8.out.z5; omega); have mg : Mv (fun k => k = g) w9 wb := Mv.same _ rfl hF.2; have hne : g ≠ gr := C8.out.lo.ne; have Ob : Aside0 (Out w3.heap.size wb ({ t with f := t.f ++ [2] }) ud u8 u9 u10 v1 (.slice Ub nb kb)) := ⟨⟨((C8.out.kZ (rngF _ _ _ (Nat.le_refl _))).1.mv M9.out (fun _ hk => .inl hk)).mv mg (fun _ hk => .inr (by rw [hk]; exact C8.out.zg.2)) |>.anti (fun _ hk => .inr hk), ((C8.out.kZ (rngF _ _ _ (Nat.le_refl _))).2.mv M9.out (fun _ hk => .inl hk)).mv mg (fun _ hk => .inr (by rw [hk]; exact C8.out.zg.2)) |>.anti (fun _ hk => .inr hk), ownK (R_same F9.out L9.out.at1 (by decide) hF.2) (fun k hk => Nat.le_trans C8.out.sz.2.2 hk.1) (Nat.le_trans C8.out.sz.2.2 C8.out.sz.1), (C8.out.bF.mv M9.out (fun _ hk => .inl hk)).mv mg (fun _ hk => .inr (by rw [hk]; exact C8.out.zg.2)) |>.anti (fun _ hk => .inr hk)⟩⟩; have Fb := Aside0.mk (rone F9.out); clear hF L9 F9 gW mg hne)
       | ((with_reducible refine gate_dst (N := 73) rfl ?_); refine ev_load rfl (N := 73) rfl rfl (q := .pointer (some ⟨g, 0, none⟩)) (v := .agg (tf (t.d.c ud) (t.a.c u8 u9 u10) v1 (.slice Ub nb kb))) rfl (load_all Lb.out.at1 (t.d.elf (rone C8.out.o)) (t.a.elf (rone C8.out.r8) (rone C8.out.r9) (rone C8.out.r10))) ?_)
       | ((with_reducible refine gate_store (t := 40) (p := 4) rfl ?_); refine ev_store rfl (ty := 40) (p := 4) rfl rfl (q := .pointer (some ⟨gr, 0, none⟩)) (v := .agg (tf (t.d.c ud) (t.a.c u8 u9 u10) v1 (.slice Ub nb kb))) rfl rfl (Lb.out.res (tf_size (t.d.elf (rone C8.out.o)) (t.a.elf (rone C8.out.r8) (rone C8.out.r9) (rone C8.out.r10))) (t.d.elf (rone C8.out.o)) (t.a.elf (rone C8.out.r8) (rone C8.out.r9) (rone C8.out.r10)) Fb.out rfl) ?_; intro wz hF; have AF := Aside0.mk hF.1; have RF := Aside0.mk (C8.out.fin Ob.out hF.2); have MF := Aside0.mk (Lb.out.fin hF.2); clear hF))
      refine bodyPost_ret (results_cell_row rfl _ _ gr 40 (tf (t.d.c ud) (t.a.c u8 u9 u10) v1 (.slice Ub nb kb)) (0, 0) _ rfl AF.out Tryd.underlying40 rfl (by rw [tf_size (t.d.elf (rone C8.out.o)) (t.a.elf (rone C8.out.r8) (rone C8.out.r9) (rone C8.out.r10))]; kernel_rfl)) rfl ?_
      obtain rfl : { t with f := t.f ++ [2] } = t' := Eq.trans (show _ = stepT t 4 from (if_pos H5.out).symm) HT.out
      exact ⟨ud, u8, u9, u10, v1, (.slice Ub nb kb), by rfl, RF.out, MF.out⟩
     ·
      have e5 : (t.d.a5 == 3) = false := beq_eq_false_iff_ne.mpr c5
      have H5 := Aside0.mk c5
      clear c5
      go_wp2_with (first
       | ((with_reducible refine gate_dst (N := 73) rfl ?_); refine ev_load rfl (N := 73) rfl rfl (q := .pointer (some ⟨g, 0, none⟩)) (v := .agg (tf (t.d.c ud) (t.a.c u8 u9 u10) (.slice Uf nf kf) (.slice Ub nb kb))) rfl (load_all C8.out.lo.at1 (t.d.elf (rone C8.out.o)) (t.a.elf (rone C8.out.r8) (rone C8.out.r9) (rone C8.out.r10))) ?_)
       | ((with_reducible refine gate_store (t := 40) (p := 4) rfl ?_); refine ev_store rfl (ty := 40) (p := 4) rfl rfl (q := .pointer (some ⟨gr, 0, none⟩)) (v := .agg (tf (t.d.c ud) (t.a.c u8 u9 u10) (.slice Uf nf kf) (.slice Ub nb kb))) rfl rfl (C8.out.lo.res (tf_size (t.d.elf (rone C8.out.o)) (t.a.elf (rone C8.out.r8) (rone C8.out.r9) (rone C8.out.r10))) (t.d.elf (rone C8.out.o)) (t.a.elf (rone C8.out.r8) (rone C8.out.r9) (rone C8.out.r10)) rfl rfl) ?_; intro wz hF; have AF := Aside0.mk hF.1; have RF := Aside0.mk (C8.out.fin C8.out.out hF.2); have MF := Aside0.mk (C8.out.lo.fin hF.2); clear hF))
      refine bodyPost_ret (results_cell_row rfl _ _ gr 40 (tf (t.d.c ud) (t.a.c u8 u9 u10) (.slice Uf nf kf) (.slice Ub nb kb)) (0, 0) _ rfl AF.out Tryd.underlying40 rfl (by rw [tf_size (t.d.elf (rone C8.out.o)) (t.a.elf (rone C8.out.r8) (rone C8.out.r9) (rone C8.out.r10))]; kernel_rfl)) rfl ?_
      obtain rfl : t = t' := Eq.trans (show t = stepT t 4 from (if_neg H5.out).symm) HT.out
      exact ⟨ud, u8, u9, u10, (.slice Uf nf kf), (.slice Ub nb kb), by rfl, RF.out, MF.out⟩
    ·
     have e4 : (action == 4) = false := beq_eq_false_iff_ne.mpr c4
     by_cases c5 : action = 5
     ·
      subst c5
      have hc59 := cell_f C8.out.lo.at1 (t.d.elf (rone C8.out.o)) (t.a.elf (rone C8.out.r8) (rone C8.out.r9) (rone C8.out.r10))
      rcases hl : t.f with _ | ⟨x, l⟩
      ·
       have HL := Aside0.mk hl
       have hn : ¬ 0 < nf := by rw [NF.out, hl]; simp
       clear hl
       go_wp2_with (first
        | ((with_reducible refine gate_dst (N := 73) rfl ?_); refine ev_load rfl (N := 73) rfl rfl (q := .pointer (some ⟨g, 0, none⟩)) (v := .agg (tf (t.d.c ud) (t.a.c u8 u9 u10) (.slice Uf nf kf) (.slice Ub nb kb))) rfl (load_all C8.out.lo.at1 (t.d.elf (rone C8.out.o)) (t.a.elf (rone C8.out.r8) (rone C8.out.r9) (rone C8.out.r10))) ?_)
        | ((with_reducible refine gate_store (t := 40) (p := 4) rfl ?_); refine ev_store rfl (ty := 40) (p := 4) rfl rfl (q := .pointer (some ⟨gr, 0, none⟩)) (v := .agg (tf (t.d.c ud) (t.a.c u8 u9 u10) (.slice Uf nf kf) (.slice Ub nb kb))) rfl rfl (C8.out.lo.res (tf_size (t.d.elf (rone C8.out.o)) (t.a.elf (rone C8.out.r8) (rone C8.out.r9) (rone C8.out.r10))) (t.d.elf (rone C8.out.o)) (t.a.elf (rone C8.out.r8) (rone C8.out.r9) (rone C8.out.r10)) rfl rfl) ?_; intro wz hF; have AF := Aside0.mk hF.1; have RF := Aside0.mk (C8.out.fin C8.out.out hF.2); have MF := Aside0.mk (C8.out.lo.fin hF.2); clear hF))
       refine bodyPost_ret (results_cell_row rfl _ _ gr 40 (tf (t.d.c ud) (t.a.c u8 u9 u10) (.slice Uf nf kf) (.slice Ub nb kb)) (0, 0) _ rfl AF.out Tryd.underlying40 rfl (by rw [tf_size (t.d.elf (rone C8.out.o)) (t.a.elf (rone C8.out.r8) (rone C8.out.r9) (rone C8.out.r10))]; kernel_rfl)) rfl ?_
       obtain rfl : t = t' := Eq.trans (by show t = stepT t 5; simp only [stepT, HL.out]; rfl) HT.out
       exact ⟨ud, u8, u9, u10, (.slice Uf nf kf), (.slice Ub nb kb), by rfl, RF.out, MF.out⟩
      ·
       have HL := Aside0.mk hl
       have hn : 0 < nf := by rw [NF.out, hl]; simp
       clear hl
       go_wp2_with (first
        | ((with_reducible refine gate_dst (N := 63) rfl ?_); refine ev_load rfl (N := 63) rfl rfl (q := .pointer (some ⟨g, 0, none⟩)) (v := .agg (tf (t.d.c ud) (t.a.c u8 u9 u10) (.slice Uf nf kf) (.slice Ub nb kb))) rfl (load_all C8.out.lo.at1 (t.d.elf (rone C8.out.o)) (t.a.elf (rone C8.out.r8) (rone C8.out.r9) (rone C8.out.r10))) ?_)
        | (go_at_call 48; refine (forth_calls t ud u8 u9 u10 (.slice Uf nf kf) (.slice Ub nb kb) x l w6.heap.size (rng w6.heap.size w7.heap.size) (fun k => rng w6.heap.size w7.heap.size k ∨ k < w3.heap.size) w8 (fun _ hk => .inl hk) C8.out.hqB (C8.out.kZ (Z := rng w6.heap.size w7.heap.size) (rngF _ _ _ C8.out.z6)).1 HFi.out.s (C8.out.kZ (Z := rng w6.heap.size w7.heap.size) (rngF _ _ _ C8.out.z6)).2 HFi.out.a (by have h := C8.out.fB; rw [HL.out] at h; exact h) C8.out.b HFi.out.b C8.out.sz.2.1 (HG.out.of_below (C8.out.lo.mv0.below (Nat.le_refl _) (fun _ hk => hk.elim)))).mono ?_; rintro _ w9 ⟨x8, x9, x10, vf', vb', rfl, ha9, hd9, hf9, hb9, hm9⟩; have L9 := Aside0.mk (C8.out.go (rngF _ _ _ C8.out.z6) hm9); have O9 : Aside0 (Out w3.heap.size w9 (forthT t x l) ud x8 x9 x10 vf' vb') := ⟨⟨by rw [forthT_d]; exact hd9.anti (fun _ hk => .inr hk), ha9.anti (fun _ hk => .inr hk), by rw [forthT_f]; exact hf9.anti (fun _ hk => .inr hk), ownK hb9 (fun k hk => Nat.le_trans C8.out.sz.2.2 (Nat.le_trans C8.out.z6 hk.1)) (Nat.le_trans C8.out.sz.2.2 C8.out.sz.1)⟩⟩; clear ha9 hd9 hf9 hb9 hm9)
        | ((with_reducible refine gate_store (t := 40) (p := 4) rfl ?_); refine ev_store rfl (ty := 40) (p := 4) rfl rfl (q := .pointer (some ⟨gr, 0, none⟩)) (v := .agg (tf (t.d.c ud) ((forthT t x l).a.c x8 x9 x10) vf' vb')) rfl rfl (L9.out.res (tf_size (t.d.elf (rone C8.out.o)) (t.a.elf (rone C8.out.r8) (rone C8.out.r9) (rone C8.out.r10))) (t.d.elf (rone C8.out.o)) ((forthT t x l).a.elf O9.out.a.r8.now.one O9.out.a.r9.now.one O9.out.a.r10.now.one) O9.out.f.now.one O9.out.b.now.one) ?_; intro wz hF; have AF := Aside0.mk hF.1; have RF := Aside0.mk (C8.out.fin O9.out hF.2); have MF := Aside0.mk (L9.out.fin hF.2); clear hF))
       refine bodyPost_ret (results_cell_row rfl _ _ gr 40 (tf (t.d.c ud) ((forthT t x l).a.c x8 x9 x10) vf' vb') (0, 0) _ rfl AF.out Tryd.underlying40 rfl (by rw [tf_size (t.d.elf (rone C8.out.o)) ((forthT t x l).a.elf O9.out.a.r8.now.one O9.out.a.r9.now.one O9.out.a.r10.now.one)]; kernel_rfl)) rfl ?_
       obtain rfl : forthT t x l = t' := Eq.trans (by show _ = stepT t 5; simp only [stepT, HL.out]; rfl) HT.out
       exact ⟨ud, x8, x9, x10, vf', vb', by rw [forthT_d], RF.out, MF.out⟩
     ·
      have e5 : (action == 5) = false := beq_eq_false_iff_ne.mpr c5
      by_cases c6 : action = 6
      ·
       subst c6
       have hc67 := cell_b C8.out.lo.at1 (t.d.elf (rone C8.out.o)) (t.a.elf (rone C8.out.r8) (rone C8.out.r9) (rone C8.out.r10))
       rcases hl : t.b with _ | ⟨x, l⟩
       ·
        have HL := Aside0.mk hl
        have hn : ¬ 0 < nb := by rw [NB.out, hl]; simp
        clear hl
        go_wp2_with (first
         | ((with_reducible refine gate_dst (N := 73) rfl ?_); refine ev_load rfl (N := 73) rfl rfl (q := .pointer (some ⟨g, 0, none⟩)) (v := .agg (tf (t.d.c ud) (t.a.c u8 u9 u10) (.slice Uf nf kf) (.slice Ub nb kb))) rfl (load_all C8.out.lo.at1 (t.d.elf (rone C8.out.o)) (t.a.elf (rone C8.out.r8) (rone C8.out.r9) (rone C8.out.r10))) ?_)
         | ((with_reducible refine gate_store (t := 40) (p := 4) rfl ?_); refine ev_store rfl (ty := 40) (p := 4) rfl rfl (q := .pointer (some ⟨gr, 0, none⟩)) (v := .agg (tf (t.d.c ud) (t.a.c u8 u9 u10) (.slice Uf nf kf) (.slice Ub nb kb))) rfl rfl (C8.out.lo.res (tf_size (t.d.elf (rone C8.out.o)) (t.a.elf (rone C8.out.r8) (rone C8.out.r9) (rone C8.out.r10))) (t.d.elf (rone C8.out.o)) (t.a.elf (rone C8.out.r8) (rone C8.out.r9) (rone C8.out.r10)) rfl rfl) ?_; intro wz hF; have AF := Aside0.mk hF.1; have RF := Aside0.mk (C8.out.fin C8.out.out hF.2); have MF := Aside0.mk (C8.out.lo.fin hF.2); clear hF))
        refine bodyPost_ret (results_cell_row rfl _ _ gr 40 (tf (t.d.c ud) (t.a.c u8 u9 u10) (.slice Uf nf kf) (.slice Ub nb kb)) (0, 0) _ rfl AF.out Tryd.underlying40 rfl (by rw [tf_size (t.d.elf (rone C8.out.o)) (t.a.elf (rone C8.out.r8) (rone C8.out.r9) (rone C8.out.r10))]; kernel_rfl)) rfl ?_
        obtain rfl : t = t' := Eq.trans (by show t = stepT t 6; simp only [stepT, HL.out]; rfl) HT.out
        exact ⟨ud, u8, u9, u10, (.slice Uf nf kf), (.slice Ub nb kb), by rfl, RF.out, MF.out⟩
       ·
        have HL := Aside0.mk hl
        have hn : 0 < nb := by rw [NB.out, hl]; simp
        clear hl
        go_wp2_with (first
         | ((with_reducible refine gate_dst (N := 71) rfl ?_); refine ev_load rfl (N := 71) rfl rfl (q := .pointer (some ⟨g, 0, none⟩)) (v := .agg (tf (t.d.c ud) (t.a.c u8 u9 u10) (.slice Uf nf kf) (.slice Ub nb kb))) rfl (load_all C8.out.lo.at1 (t.d.elf (rone C8.out.o)) (t.a.elf (rone C8.out.r8) (rone C8.out.r9) (rone C8.out.r10))) ?_)
         | (go_at_call 49; refine (back_calls t.d (t.a.c u8 u9 u10) (t.a.elf (rone C8.out.r8) (rone C8.out.r9) (rone C8.out.r10)) ud (.slice Uf nf kf) (.slice Ub nb kb) x l (fun k => k < w3.heap.size) w8 (fun i hi => C8.out.hqB i (.inr hi)) C8.out.out.o HFi.out.s rfl (by have h := C8.out.bN; rw [HL.out] at h; exact h)).mono ?_; rintro _ w9 ⟨vd', vb', rfl, hd9, hb9, hm9⟩; have L9 := Aside0.mk (C8.out.lo.below hm9); have O9 : Aside0 (Out w3.heap.size w9 (backT t x l) vd' u8 u9 u10 (.slice Uf nf kf) vb') := ⟨⟨hd9, C8.out.out.a.mv (Mv.of_below hm9 (fun _ => False)) (fun _ hk => hk.elim), C8.out.out.f.mv (Mv.of_below hm9 (fun _ => False)) (fun _ hk => hk.elim), hb9⟩⟩; clear hd9 hb9 hm9)
         | ((with_reducible refine gate_store (t := 40) (p := 4) rfl ?_); refine ev_store rfl (ty := 40) (p := 4) rfl rfl (q := .pointer (some ⟨gr, 0, none⟩)) (v := .agg (tf ((if x = 3 then resD t.d else if x = 4 then misD t.d else t.d).c vd') (t.a.c u8 u9 u10) (.slice Uf nf kf) vb')) rfl rfl (L9.out.res (tf_size (t.d.elf (rone C8.out.o)) (t.a.elf (rone C8.out.r8) (rone C8.out.r9) (rone C8.out.r10))) (Dep.elf _ O9.out.o.now.one) (t.a.elf (rone C8.out.r8) (rone C8.out.r9) (rone C8.out.r10)) rfl O9.out.b.now.one) ?_; intro wz hF; have AF := Aside0.mk hF.1; have RF := Aside0.mk (C8.out.fin O9.out hF.2); have MF := Aside0.mk (L9.out.fin hF.2); clear hF))
        all_goals (refine bodyPost_ret (results_cell_row rfl _ _ gr 40 (tf ((if x = 3 then resD t.d else if x = 4 then misD t.d else t.d).c vd') (t.a.c u8 u9 u10) (.slice Uf nf kf) vb') (0, 0) _ rfl AF.out Tryd.underlying40 rfl (by rw [tf_size (Dep.elf _ O9.out.o.now.one) (t.a.elf (rone C8.out.r8) (rone C8.out.r9) (rone C8.out.r10))]; kernel_rfl)) rfl ?_)
        all_goals (obtain rfl : backT t x l = t' := Eq.trans (by show _ = stepT t 6; simp only [stepT, HL.out]; rfl) HT.out)
        all_goals (exact ⟨vd', u8, u9, u10, (.slice Uf nf kf), vb', by first | rfl | simp_all [backT], RF.out, MF.out⟩)
      ·
       have e6 : (action == 6) = false := beq_eq_false_iff_ne.mpr c6
       have HN := Aside0.mk (And.intro c1 (And.intro c2 (And.intro c3 (And.intro c4 (And.intro c5 c6)))))
       clear c1 c2 c3 c4 c5 c6
       go_wp2_with (first
        | ((with_reducible refine gate_dst (N := 73) rfl ?_); refine ev_load rfl (N := 73) rfl rfl (q := .pointer (some ⟨g, 0, none⟩)) (v := .agg (tf (t.d.c ud) (t.a.c u8 u9 u10) (.slice Uf nf kf) (.slice Ub nb kb))) rfl (load_all C8.out.lo.at1 (t.d.elf (rone C8.out.o)) (t.a.elf (rone C8.out.r8) (rone C8.out.r9) (rone C8.out.r10))) ?_)
        | ((with_reducible refine gate_store (t := 40) (p := 4) rfl ?_); refine ev_store rfl (ty := 40) (p := 4) rfl rfl (q := .pointer (some ⟨gr, 0, none⟩)) (v := .agg (tf (t.d.c ud) (t.a.c u8 u9 u10) (.slice Uf nf kf) (.slice Ub nb kb))) rfl rfl (C8.out.lo.res (tf_size (t.d.elf (rone C8.out.o)) (t.a.elf (rone C8.out.r8) (rone C8.out.r9) (rone C8.out.r10))) (t.d.elf (rone C8.out.o)) (t.a.elf (rone C8.out.r8) (rone C8.out.r9) (rone C8.out.r10)) rfl rfl) ?_; intro wz hF; have AF := Aside0.mk hF.1; have RF := Aside0.mk (C8.out.fin C8.out.out hF.2); have MF := Aside0.mk (C8.out.lo.fin hF.2); clear hF))
       refine bodyPost_ret (results_cell_row rfl _ _ gr 40 (tf (t.d.c ud) (t.a.c u8 u9 u10) (.slice Uf nf kf) (.slice Ub nb kb)) (0, 0) _ rfl AF.out Tryd.underlying40 rfl (by rw [tf_size (t.d.elf (rone C8.out.o)) (t.a.elf (rone C8.out.r8) (rone C8.out.r9) (rone C8.out.r10))]; kernel_rfl)) rfl ?_
       obtain rfl : t = t' := Eq.trans (by show t = stepT t action; simp only [stepT, if_neg HN.out.1, HN.out.2.1, HN.out.2.2.1, HN.out.2.2.2.1, HN.out.2.2.2.2.1, HN.out.2.2.2.2.2, HN.out.1, or_self, if_false]) HT.out
       exact ⟨ud, u8, u9, u10, (.slice Uf nf kf), (.slice Ub nb kb), by rfl, RF.out, MF.out⟩


end Go.Proofs.YtbndoihcejieoaaDoor.G
namespace Go.Proofs.YtbndoihcejieoaaDoor.G
open Go.RowKit Go.Proofs.YtbndoihcejieoaaDoorW.PrintWords Go.Proofs.YtbndoihcejieoaaDoorW.PrintLast Go.Proofs.YtbndoihcejieoaaDoorW.PrintMore
open Go.Sort (putRow Holds putRow_self putRow_set size_putRow mapBlock grow)
attribute [local go_sem] max2_int min2_int max_two min_two max_three min_three max_four min_four   -- for this text's walks alone
set_option linter.unusedVariables false
set_option linter.unusedSimpArgs false

section
variable {w W : World} {base g cap : Nat} {ok : Nat → Prop} {xs ys : List Int}
theorem holds_of_R (h : Kd.R (Kd.int .i64) 3 w base ok (.slice (some ⟨g, 0, none⟩) xs.length cap) xs) : Holds (Value.int .i64) w g 0 xs.toArray := fun j hj => by
 have hj' : j < xs.length := by simpa using hj
 have hc := Kd.R_cell (d := (0 : Int)) h (j : Int) (by omega) (by exact_mod_cast hj')
 rw [Int.toNat_natCast] at hc
 rw [Nat.zero_add]
 refine ⟨hc.1.trans ?_, hc.2⟩
 congr 2
 simp [rdOf, hj']
theorem take_set (xs ys : List Int) (k : Nat) (hl : ys.length = xs.length) (hk : k < xs.length) : (ys.take k ++ xs.drop k).set k (ys[k]'(by omega)) = ys.take (k + 1) ++ xs.drop (k + 1) := by
 apply List.ext_getElem?
 intro i
 by_cases h1 : i < k
 ·
  rw [List.getElem?_set_ne (by omega), List.getElem?_append_left (by simp; omega), List.getElem?_append_left (by simp; omega)]
  simp [List.getElem?_take, h1, show i < k + 1 by omega]
 ·
  by_cases h2 : i = k
  ·
   subst h2
   rw [List.getElem?_set_self (by simp; omega), List.getElem?_append_left (by simp; omega)]
   simp [List.getElem?_take]
  ·
   rw [List.getElem?_set_ne (by omega), List.getElem?_append_right (by simp; omega), List.getElem?_append_right (by simp; omega)]
   simp only [List.length_take, List.getElem?_drop]
   congr 1
   omega
theorem R_putAll (h : Kd.R (Kd.int .i64) 3 w base ok (.slice (some ⟨g, 0, none⟩) xs.length cap) xs) (hl : ys.length = xs.length) : Kd.R (Kd.int .i64) 3 (putRow (Value.int .i64) w g 0 ys.toArray) base ok (.slice (some ⟨g, 0, none⟩) xs.length cap) ys := by
 have hH := holds_of_R h
 have key : ∀ k, k ≤ xs.length → Kd.R (Kd.int .i64) 3 (putRow (Value.int .i64) w g 0 (ys.take k ++ xs.drop k).toArray) base ok (.slice (some ⟨g, 0, none⟩) (ys.take k ++ xs.drop k).length cap) (ys.take k ++ xs.drop k) := by
  intro k
  induction k with
  | zero =>
   intro _
   simp only [List.take_zero, List.nil_append, List.drop_zero]
   rw [putRow_self _ _ _ _ _ hH]
   exact h
  | succ k ih =>
   intro hk
   have h1 := ih (by omega)
   have h2 := (Kd.R_put h1 (k : Int) (ys[k]'(by omega))).1
   rw [Int.toNat_natCast, take_set xs ys k hl (by omega)] at h2
   have e := putRow_set (Value.int .i64) w g 0 (ys.take k ++ xs.drop k).toArray k (ys[k]'(by omega)) (by simp; omega)
   rw [Nat.zero_add] at e
   rw [e] at h2
   have e2 : (ys.take k ++ xs.drop k).toArray.setIfInBounds k (ys[k]'(by omega)) = (ys.take (k + 1) ++ xs.drop (k + 1)).toArray := by
    rw [List.setIfInBounds_toArray, take_set xs ys k hl (by omega)]
   rw [e2] at h2
   rw [show (ys.take (k + 1) ++ xs.drop (k + 1)).length = (ys.take k ++ xs.drop k).length by simp; omega]
   exact h2
 have := key xs.length (Nat.le_refl _)
 rw [← hl, List.take_length, show xs.drop ys.length = [] by rw [hl]; simp, List.append_nil] at this
 rw [← hl]
 exact this
theorem below_putRow (hg : base ≤ g) (d : Array Int) : Below base w (putRow (Value.int .i64) w g 0 d) :=
 ⟨rfl, rfl, rfl, by rw [size_putRow]; exact Nat.le_refl _, fun k hk => by
  unfold putRow mapBlock
  rw [Array.getElem?_modify, if_neg (by omega)]⟩
theorem below_ahead (n : Nat) : Below base w (Go.Sort.ahead w n) := ⟨rfl, rfl, rfl, Nat.le_refl _, fun _ _ => rfl⟩
theorem below_grow (os : Array Obj) : Below w.heap.size w (grow w os) := ⟨rfl, rfl, rfl, by show _ ≤ (w.heap ++ os).size; rw [Array.size_append]; omega, fun k hk => by
 show (w.heap ++ os)[k]? = _
 rw [Array.getElem?_append_left hk]⟩
end

def setL (l : List Int) : List Int := Lib.compact (l.mergeSort fun x y => decide (x ≤ y))
theorem compact_len (zs : List Int) : (Lib.compact zs).length ≤ zs.length := by
 unfold Lib.compact Lib.compactUpTo
 rw [List.length_map]
 refine Nat.le_trans (List.length_filter_le _ _) ?_
 simp

theorem R_ahead {w : World} {base : Nat} {ok : Nat → Prop} {v : Value} {l : List Int} (h : Kd.R (Kd.int .i64) 3 w base ok v l) (n : Nat) : Kd.R (Kd.int .i64) 3 (Go.Sort.ahead w n) base ok v l := Kd.R_below h (below_ahead n)
/-- slices.Sort, slices.Compact at rows of one's own. -/
theorem sort_calls {w : World} {base : Nat} {v : Value} {l : List Int} (h : Kd.R (Kd.int .i64) 3 w base (fun _ => True) v l) (hl : l.length < 5000000000000) :
  Calls Tryd.prog 66 #[v] w fun e w' => e = .returned (.tuple #[]) ∧ Kd.R (Kd.int .i64) 3 w' base (fun _ => True) v (l.mergeSort fun x y => decide (x ≤ y)) ∧ Below base w w' := by
 obtain ⟨inner, own⟩ := Kd.R_own h
 rcases own.2 with ⟨rfl, hn⟩ | ⟨g, cap, cur, rfl, hbase, hheap, _⟩
 ·
  obtain rfl : l = [] := List.eq_nil_of_length_eq_zero hn
  refine (Tryd.slices_Sort_int_none none 0 w).mono ?_
  rintro e w' ⟨rfl, rfl⟩
  exact ⟨rfl, by simpa using h, Below.refl _ _⟩
 ·
  refine (Tryd.slices_Sort_int g 0 cap l w (holds_of_R h) (blk_lt hheap) (by omega)).mono ?_
  rintro e w' ⟨rfl, n, os, rfl⟩
  refine ⟨rfl, Kd.R_below ?_ (below_grow os), (below_ahead n).trans ((below_putRow hbase _).trans ((below_grow os).mono ?_))⟩
  ·
   exact R_putAll (R_ahead h n) (List.length_mergeSort l)
  ·
   rw [size_putRow]
   exact Nat.le_of_lt (Nat.lt_of_le_of_lt hbase (blk_lt hheap))
theorem compact_calls {w : World} {base : Nat} {v : Value} {l : List Int} (h : Kd.R (Kd.int .i64) 3 w base (fun _ => True) v l) (hl : l.length < 5000000000000) :
  Calls Tryd.prog 67 #[v] w fun e w' => ∃ v', e = .returned v' ∧ Kd.R (Kd.int .i64) 3 w' base (fun _ => True) v' (Lib.compact l) ∧ Below base w w' := by
 obtain ⟨inner, own⟩ := Kd.R_own h
 rcases own.2 with ⟨rfl, hn⟩ | ⟨g, cap, cur, rfl, hbase, hheap, hle, _⟩
 ·
  obtain rfl : l = [] := List.eq_nil_of_length_eq_zero hn
  refine (Tryd.slices_Compact_int_empty none 0 w).mono ?_
  rintro e w' ⟨rfl, rfl⟩
  exact ⟨_, rfl, by simpa [Lib.compact, Lib.compactUpTo] using h, Below.refl _ _⟩
 ·
  refine (Tryd.slices_Compact_int g 0 cap l w (holds_of_R h) (by omega) hle).mono ?_
  rintro e w' ⟨rfl, n, rfl⟩
  refine ⟨_, rfl, ?_, (below_ahead n).trans (below_putRow hbase _)⟩
  have hc := compact_len l
  have h2 := R_putAll (ys := Lib.compact l ++ List.replicate (l.length - (Lib.compact l).length) 0) (R_ahead h n) (by simp; omega)
  have h3 := Kd.R_take (m := (Lib.compact l).length) h2 (by simp)
  rw [List.take_left' rfl] at h3
  exact h3
set_option maxHeartbeats 4000000 in
set_option maxRecDepth 100000 in
theorem set_calls (A : Option Addr) (c : Nat) (l : List Int) (w : World) (hr : Kd.C (Kd.int .i64) w A l.length l) (hc : l.length ≤ c) (hl : l.length < 5000000000000) :
  Calls Tryd.prog 53 #[.slice A l.length c] w fun e w' => ∃ v : Value, e = .returned v ∧ Kd.R (Kd.int .i64) 3 w' w.heap.size (fun _ => True) v (setL l) ∧ Below w.heap.size w w' := by
 have HR := Aside0.mk hr
 have HC := Aside0.mk hc
 have HL := Aside0.mk hl
 clear hr hc hl
 go_enter Tryd.func53, Tryd.ntmps53
 go_wp2_with (first
  | (go_at_call 43; refine (slices_Clone_int_int.calls A c l l w HR.out HC.out (if_pos (by have := HL.out; omega))).mono ?_; rintro e w1 ⟨v, rfl, ho, hb⟩; have O1 := Aside0.mk ho; have B1 := Aside0.mk hb; clear ho hb)
  | (go_at_call 66; refine (sort_calls O1.out HL.out).mono ?_; rintro e w2 ⟨rfl, ho, hb⟩; have O2 := Aside0.mk ho; have B2 := Aside0.mk (B1.out.trans hb); clear ho hb O1 B1)
  | (go_at_call 67; refine (compact_calls O2.out (by rw [List.length_mergeSort]; exact HL.out)).mono ?_; rintro e w3 ⟨v3, rfl, ho, hb⟩; have O3 := Aside0.mk ho; have B3 := Aside0.mk (B2.out.trans hb); clear ho hb O2 B2))
 go_ret
 exact ⟨v3, rfl, O3.out, B3.out⟩
end Go.Proofs.YtbndoihcejieoaaDoor.G
namespace Go.Proofs.YtbndoihcejieoaaDoor.G
open Go.RowKit Go.Proofs.YtbndoihcejieoaaDoorW.PrintWords Go.Proofs.YtbndoihcejieoaaDoorW.PrintLast Go.Proofs.YtbndoihcejieoaaDoorW.PrintMore
attribute [local go_sem] max2_int min2_int max_two min_two max_three min_three max_four min_four   -- for this text's walks alone
set_option linter.unusedVariables false
set_option linter.unusedSimpArgs false

theorem take_has (l : List Int) (x : Int) (i : Nat) (hi : i < l.length) (h : (l.take i).contains x = false) (hx : ¬ x = rd l (i : Int)) : (l.take (i + 1)).contains x = false := by
 rw [List.take_succ_eq_append_getElem hi, List.contains_append, h, Bool.false_or]
 have e : rd l (i : Int) = l[i] := by
  show l.getD (i : Int).toNat 0 = _
  rw [Int.toNat_natCast]
  simp [List.getD_eq_getElem?_getD, List.getElem?_eq_getElem hi]
 rw [e] at hx
 simp [List.contains_cons, hx]
theorem rd_has (l : List Int) (i : Nat) (hi : i < l.length) : l.contains (rd l (i : Int)) = true := by
 have e : rd l (i : Int) = l[i] := by
  show l.getD (i : Int).toNat 0 = _
  rw [Int.toNat_natCast]
  simp [List.getD_eq_getElem?_getD, List.getElem?_eq_getElem hi]
 rw [e]
 simp
set_option maxHeartbeats 4000000 in
set_option maxRecDepth 100000 in
theorem index_calls (A : Option Addr) (c : Nat) (l : List Int) (x : Int) (w : World) (hr : Kd.C (Kd.int .i64) w A l.length l) :
  Calls Tryd.prog 68 #[.slice A l.length c, .int .i64 x] w fun e w' => ∃ r : Int, e = .returned (.int .i64 r) ∧ decide (0 ≤ r) = l.contains x ∧ w' = w := by
 have hb : l.length ≤ 9223372036854775807 := hr.2.1
 have HR := Aside0.mk hr
 clear hr
 go_enter Tryd.func68, Tryd.ntmps68
 go_wp2
 go_loopw [8] (fun v wr => ∃ i : Nat, i ≤ l.length ∧ v = .int .i64 i ∧ Aside0 ((l.take i).contains x = false) ∧ wr = w) (fun v _ => l.length - (intOf v).toNat)
 case atStart => exact ⟨0, by omega, rfl, ⟨by simp⟩, rfl⟩
 case round =>
  obtain ⟨i, hi, rfl, HA, rfl⟩ := hrel
  by_cases hlt : i < l.length
  ·
   obtain ⟨ad, rfl, hcell⟩ := Kd.at_int HR.out (i : Int) (by omega) (by omega)
   rw [Int.toNat_natCast] at hcell
   have hlt' : (i : Int) < (l.length : Int) := by omega
   by_cases hx : x = rd l (i : Int)
   ·
    have hxb : (x == rd l (i : Int)) = true := beq_iff_eq.mpr hx
    have HX := Aside0.mk hx
    clear hx HA
    go_wp2
    go_ret
    exact ⟨(i : Int), rfl, by rw [HX.out, rd_has l i hlt]; simp, rfl⟩
   ·
    have hxb : (x == rd l (i : Int)) = false := beq_eq_false_iff_ne.mpr hx
    have HX := Aside0.mk (take_has l x i hlt HA.out hx)
    clear hx HA
    go_wp2
    go_roundw
    case rel => exact ⟨i + 1, by omega, by go_num, HX, by first | rfl | trivial⟩
    case measure => simp [intOf]; omega
  ·
   obtain rfl : i = l.length := by omega
   have HX := Aside0.mk (show l.contains x = false by have := HA.out; rwa [List.take_length] at this)
   clear HA
   go_wp2
   go_ret
   exact ⟨-1, rfl, by rw [HX.out]; rfl, rfl⟩
set_option maxHeartbeats 4000000 in
set_option maxRecDepth 100000 in
theorem contains_calls (A : Option Addr) (c : Nat) (l : List Int) (x : Int) (w : World) (hr : Kd.C (Kd.int .i64) w A l.length l) :
  Calls Tryd.prog 55 #[.slice A l.length c, .int .i64 x] w fun e w' => e = .returned (.bool (l.contains x)) ∧ w' = w := by
 have HR := Aside0.mk hr
 clear hr
 go_enter Tryd.func55, Tryd.ntmps55
 go_wp2_with (first
  | (go_at_call 68; refine (index_calls A c l x w HR.out).mono ?_; rintro e w1 ⟨r, rfl, hd, rfl⟩; have HD := Aside0.mk hd; clear hd))
 go_ret
 exact ⟨by rw [← HD.out]; rfl, rfl⟩
end Go.Proofs.YtbndoihcejieoaaDoor.G
namespace Go.Proofs.YtbndoihcejieoaaDoor.G
open Go.RowKit Go.Proofs.YtbndoihcejieoaaDoorW.PrintWords Go.Proofs.YtbndoihcejieoaaDoorW.PrintLast Go.Proofs.YtbndoihcejieoaaDoorW.PrintMore
open Go.Sort (putRow Holds putRow_self putRow_set size_putRow mapBlock grow)
attribute [local go_sem] max2_int min2_int max_two min_two max_three min_three max_four min_four   -- for this text's walks alone
set_option linter.unusedVariables false
set_option linter.unusedSimpArgs false

theorem mv_row {w : World} {g : Nat} {P : Nat → Prop} (hP : P g) (n : Nat) (dk : Array Int) (os : Array Obj) : Mv P w (grow (putRow (Value.int .i64) (Go.Sort.ahead w n) g 0 dk) os) := by
 refine ⟨rfl, rfl, rfl, ?_, fun i hi hn => ?_⟩
 ·
  show _ ≤ ((putRow (Value.int .i64) (Go.Sort.ahead w n) g 0 dk).heap ++ os).size
  rw [Array.size_append, size_putRow]
  exact Nat.le_add_right _ _
 ·
  show ((putRow (Value.int .i64) (Go.Sort.ahead w n) g 0 dk).heap ++ os)[i]? = _
  rw [Array.getElem?_append_left (by rw [size_putRow]; exact hi)]
  unfold putRow mapBlock
  rw [Array.getElem?_modify, if_neg (fun e => hn (by rw [← e]; exact hP))]
  rfl
set_option maxHeartbeats 4000000 in
set_option maxRecDepth 100000 in
theorem delete_nil (fv : Value) (w : World) : Calls Tryd.prog 52 #[.slice none 0 0, fv] w fun e w' => e = .returned (.slice none 0 0) ∧ w' = w := by
 go_enter Tryd.func52, Tryd.ntmps52
 go_wp2_with (first
  | (go_at_call 65; refine (Tryd.slices_IndexFunc_empty (α := Int) none 0 fv w).mono ?_; rintro e w1 ⟨rfl, rfl⟩))
 go_ret
 exact ⟨rfl, rfl⟩
theorem delete_calls {w : World} {base : Nat} {v : Value} {l : List Int} (h : Kd.R (Kd.int .i64) 3 w base (fun _ => True) v l) (hl : l.length < 5000000000000) (p : Int → Bool) (gf : Nat) (lb : Array Value) (eg : ∀ args w, (callFunc gf args).run Tryd.prog w = .ok (.enter gf args) w)
  (hp : ∀ W, Mv (fun k => v.ownBlock = some k) w W → ∀ x, FnGives Tryd.prog gf lb #[.int .i64 x] (.bool (p x)) W) :
  Calls Tryd.prog 52 #[v, .func (.func gf) #[] lb] w fun e w' => ∃ v', e = .returned v' ∧ Kd.R (Kd.int .i64) 3 w' base (fun _ => True) v' (l.filter fun x => !p x) ∧ Below base w w' := by
 obtain ⟨inner, own⟩ := Kd.R_own h
 rcases own.2 with ⟨rfl, hn⟩ | ⟨g, cap, cur, rfl, hbase, hheap, hle, _⟩
 ·
  obtain rfl : l = [] := List.eq_nil_of_length_eq_zero hn
  refine (delete_nil _ w).mono ?_
  rintro e w' ⟨rfl, rfl⟩
  exact ⟨_, rfl, h, Below.refl _ _⟩
 ·
  refine (Tryd.slices_DeleteFunc (Value.int .i64) (fun _ => rfl) p gf lb eg 0 Tryd.zeroValue3 g 0 cap l.toArray w (fun W x hb => hp W (Mv.of_below hb _) x) (fun n os dk x hs => hp _ (mv_row (by simp [Value.ownBlock]) n dk os) x) (holds_of_R h) (by simp; omega) (by simpa using hle)).mono ?_
  rintro e w' ⟨rfl, n, rfl⟩
  refine ⟨_, rfl, ?_, (below_ahead n).trans (below_putRow hbase _)⟩
  have hc : (l.filter fun x => !p x).length ≤ l.length := List.length_filter_le _ _
  have h2 := R_putAll (ys := (l.filter fun x => !p x) ++ List.replicate (l.length - (l.filter fun x => !p x).length) 0) (R_ahead h n) (by simp; omega)
  have h3 := Kd.R_take (m := (l.filter fun x => !p x).length) h2 (by simp)
  rw [List.take_left' rfl] at h3
  exact h3

theorem enters54 (args : Array Value) (w : World) : (callFunc 54 args).run Tryd.prog w = .ok (.enter 54 args) w := enters_ Tryd.func54 (by kernel_rfl) rfl args w
theorem enters56 (args : Array Value) (w : World) : (callFunc 56 args).run Tryd.prog w = .ok (.enter 56 args) w := enters_ Tryd.func56 (by kernel_rfl) rfl args w
set_option maxHeartbeats 4000000 in
set_option maxRecDepth 100000 in
theorem clo54 (gb : Nat) (A : Option Addr) (c : Nat) (ys : List Int) (W : World) (hcell : W.cell? ⟨gb, 0, none⟩ = some (.slice A ys.length c)) (hr : Kd.C (Kd.int .i64) W A ys.length ys) (x : Int) : FnGives Tryd.prog 54 #[.pointer (some ⟨gb, 0, none⟩)] #[.int .i64 x] (.bool (ys.contains x)) W := by
 show Calls Tryd.prog 54 #[.int .i64 x, .pointer (some ⟨gb, 0, none⟩)] W _
 have HR := Aside0.mk hr
 clear hr
 go_enter Tryd.func54, Tryd.ntmps54
 go_wp2_with (first | (go_at_call 55; refine (contains_calls A c ys x W HR.out).mono ?_; rintro e w1 ⟨rfl, rfl⟩))
 go_ret
 exact ⟨by show Ending.returned (.bool (decide (x ∈ ys))) = _; simp, 0, rfl⟩
set_option maxHeartbeats 4000000 in
set_option maxRecDepth 100000 in
theorem clo56 (gb : Nat) (A : Option Addr) (c : Nat) (ys : List Int) (W : World) (hcell : W.cell? ⟨gb, 0, none⟩ = some (.slice A ys.length c)) (hr : Kd.C (Kd.int .i64) W A ys.length ys) (x : Int) : FnGives Tryd.prog 56 #[.pointer (some ⟨gb, 0, none⟩)] #[.int .i64 x] (.bool (ys.contains x)) W := by
 show Calls Tryd.prog 56 #[.int .i64 x, .pointer (some ⟨gb, 0, none⟩)] W _
 have HR := Aside0.mk hr
 clear hr
 go_enter Tryd.func56, Tryd.ntmps56
 go_wp2_with (first | (go_at_call 55; refine (contains_calls A c ys x W HR.out).mono ?_; rintro e w1 ⟨rfl, rfl⟩))
 go_ret
 exact ⟨by show Ending.returned (.bool (decide (x ∈ ys))) = _; simp, 0, rfl⟩
/-- What the closures see while a row of one's own is rewritten. -/
theorem sees {w w3 W : World} {base g : Nat} {v sv : Value} {l : List Int} {A : Option Addr} {n : Nat} {ys : List Int} (h : Kd.R (Kd.int .i64) 3 w3 base (fun _ => True) v l) (hbase : w.heap.size ≤ base) (hg : g < base) (b3 : Below w.heap.size w w3) (hc : w3.heap[g]? = some (.cells #[sv] 25 (0, 0))) (hr : Kd.C (Kd.int .i64) w A n ys) (m : Mv (fun k => v.ownBlock = some k) w3 W) :
  W.cell? ⟨g, 0, none⟩ = some sv ∧ Kd.C (Kd.int .i64) W A n ys := by
 have hb : ∀ k, v.ownBlock = some k → base ≤ k := fun k hk => (Kd.R_base h) k hk
 refine ⟨(cell_of_row W g 0 _ 25 (0, 0) (blk_kept hc m.kept (fun hk => by have := hb g hk; omega))).trans rfl, Kd.C_below hr (b3.trans (m.below b3.size (fun k hk => Nat.le_trans hbase (hb k hk))))⟩
def lessL (xs ys : List Int) : List Int := (setL xs).filter fun n => !ys.contains n
theorem setL_len (l : List Int) : (setL l).length ≤ l.length := by
 unfold setL
 have := compact_len (l.mergeSort fun x y => decide (x ≤ y))
 rwa [List.length_mergeSort] at this
set_option maxHeartbeats 4000000 in
set_option maxRecDepth 100000 in
theorem compare_calls (A : Option Addr) (c : Nat) (xs : List Int) (B : Option Addr) (d : Nat) (ys : List Int) (w : World) (hx : Kd.C (Kd.int .i64) w A xs.length xs) (hxc : xs.length ≤ c) (hy : Kd.C (Kd.int .i64) w B ys.length ys) (hyc : ys.length ≤ d) (hlx : xs.length < 5000000000000) (hly : ys.length < 5000000000000) :
  Calls Tryd.prog 20 #[.slice A xs.length c, .slice B ys.length d] w fun e w' => ∃ v1 v2 : Value, e = .returned (.tuple #[v1, v2]) ∧ Kd.R (Kd.int .i64) 3 w' w.heap.size (fun k => some k ≠ v2.ownBlock) v1 (lessL xs ys) ∧ Kd.R (Kd.int .i64) 3 w' w.heap.size (fun k => some k ≠ v1.ownBlock) v2 (lessL ys xs) ∧ Below w.heap.size w w' := by
 have HX := Aside0.mk hx
 have HY := Aside0.mk hy
 have HXC := Aside0.mk hxc
 have HYC := Aside0.mk hyc
 have LX := Aside0.mk hlx
 have LY := Aside0.mk hly
 clear hx hy hxc hyc hlx hly
 go_enter Tryd.func20, Tryd.ntmps20
 go_wp2_with (first
  | ((with_reducible refine gate_dst (N := 2) rfl ?_); refine box_event rfl (N := 2) rfl (cs := #[.slice A xs.length c]) (t := 25) ?hr ?_; (case hr => first | (go_simp; done) | (go_simp; rfl)); intro g1 hg w1 h1 b1; have G1 := Aside0.mk (And.intro hg (And.intro h1 b1)); clear hg h1 b1)
  | ((with_reducible refine gate_dst (N := 3) rfl ?_); refine box_event rfl (N := 3) rfl (cs := #[.slice B ys.length d]) (t := 25) ?hr ?_; (case hr => first | (go_simp; done) | (go_simp; rfl)); intro g2 hg w2 h1 b1; have B2 := Aside0.mk (G1.out.2.2.trans (b1.mono G1.out.2.2.size)); have Q1 := Aside0.mk (blk_below G1.out.2.1 b1); have Q2 := Aside0.mk h1; have hc1 : w2.cell? ⟨g1, 0, none⟩ = some (.slice A xs.length c) := (cell_of_row w2 g1 0 _ 25 (0, 0) Q1.out).trans rfl; clear hg h1 b1 G1)
  | (go_at_call 53; first | (have _q := B4.out; clear _q; refine (set_calls B d ys w4 (Kd.C_below HY.out B4.out) HYC.out LY.out).mono ?_; rintro e w5 ⟨u, rfl, ho, hb⟩; have O5 := Aside0.mk ho; have B5 := Aside0.mk (B4.out.trans (hb.mono B4.out.size)); have S5 := Aside0.mk (blk_below S1.out hb); have V5 := Aside0.mk (Kd.R_below (Kd.R_bound O4.out) hb); have Z5 := Aside0.mk (Kd.R_lt O4.out); clear ho hb hc2) | (refine (set_calls A c xs w2 (Kd.C_below HX.out B2.out) HXC.out LX.out).mono ?_; rintro e w3 ⟨v, rfl, ho, hb⟩; have O3 := Aside0.mk ho; have B3 := Aside0.mk (B2.out.trans (hb.mono B2.out.size)); have P1 := Aside0.mk (blk_below Q1.out hb); have P2 := Aside0.mk (blk_below Q2.out hb); have L2 := Aside0.mk (And.intro (blk_lt Q1.out) (blk_lt Q2.out)); clear ho hb hc1))
  | (go_at_call 52; first | (have _q := B5.out; clear _q; refine (delete_calls O5.out (Nat.lt_of_le_of_lt (setL_len ys) LY.out) (fun n => xs.contains n) 56 _ enters56 (fun W m x => clo56 g1 A c xs W (sees O5.out B4.out.size (blk_lt S1.out) B5.out S5.out HX.out m).1 (sees O5.out B4.out.size (blk_lt S1.out) B5.out S5.out HX.out m).2 x)).mono ?_; rintro e w6 ⟨v2, rfl, ho, hb⟩; have O6 := Aside0.mk ho; have B6 := Aside0.mk (B5.out.trans (hb.mono B4.out.size)); have V6 := Aside0.mk (Kd.R_step V5.out (fun k hk _ => hb.block k hk.2.2.1)); clear ho hb) | (refine (delete_calls O3.out (Nat.lt_of_le_of_lt (setL_len xs) LX.out) (fun n => ys.contains n) 54 _ enters54 (fun W m x => clo54 g2 B d ys W (sees O3.out B2.out.size L2.out.2 B3.out P2.out HY.out m).1 (sees O3.out B2.out.size L2.out.2 B3.out P2.out HY.out m).2 x)).mono ?_; rintro e w4 ⟨v1, rfl, ho, hb⟩; have O4 := Aside0.mk (Kd.R_lower ho B2.out.size); have B4 := Aside0.mk (B3.out.trans (hb.mono B2.out.size)); have S1 := Aside0.mk ((hb.block g1 L2.out.1).trans P1.out); have S2 := Aside0.mk ((hb.block g2 L2.out.2).trans P2.out); have hc2 : w4.cell? ⟨g2, 0, none⟩ = some (.slice B ys.length d) := (cell_of_row w4 g2 0 _ 25 (0, 0) S2.out).trans rfl; clear ho hb P1 P2 O3 B3)))
 go_ret2
 refine ⟨v1, v2, rfl, Kd.R_mono V6.out (fun k hk e => ?_), Kd.R_mono (Kd.R_lower (Kd.R_bound O6.out) B4.out.size) (fun k hk e => ?_), B6.out⟩
 ·
  have h1 := Kd.R_base O6.out k e.symm
  have h2 := hk.2.2.1
  omega
 ·
  have h1 := Z5.out k e.symm
  have h2 := hk.2.1
  omega
end Go.Proofs.YtbndoihcejieoaaDoor.G
namespace Go.Proofs.YtbndoihcejieoaaDoor.G
open Go.RowKit Go.Proofs.YtbndoihcejieoaaDoorW.PrintWords Go.Proofs.YtbndoihcejieoaaDoorW.PrintLast Go.Proofs.YtbndoihcejieoaaDoorW.PrintMore
attribute [local go_sem] max2_int min2_int max_two min_two max_three min_three max_four min_four   -- for this text's walks alone
set_option linter.unusedVariables false
set_option linter.unusedSimpArgs false

def transit_Start.f (a0 : Int) (a1 : Int) (a2 : Int) (a3 : Int) (a4 : Int) (a5 : Int) (l6 : List Int) : Option (Int × Int × Int × Int × Int × Int × Int × Int × Int × Int × List Int) := (slices_Clone_int_int.f l6).bind fun t625 => (some (a0, a4, a1, a2, a3, 1, a4, a5, 0, 0, t625))
set_option maxHeartbeats 8000000 in
set_option maxRecDepth 100000 in
theorem transit_Start.calls (a0 : Int) (a1 : Int) (a2 : Int) (a3 : Int) (a4 : Int) (a5 : Int) (A6 : Option Addr) (c6 : Nat) (l6 : List Int) (r1 : Int) (r2 : Int) (r3 : Int) (r4 : Int) (r5 : Int) (r6 : Int) (r7 : Int) (r8 : Int) (r9 : Int) (r10 : Int) (r11 : List Int) (w : World) (hr6 : Kd.C (Kd.int .i64) w A6 l6.length l6) (hc6 : l6.length ≤ c6) (h : transit_Start.f a0 a1 a2 a3 a4 a5 l6 = some (r1, r2, r3, r4, r5, r6, r7, r8, r9, r10, r11)) :
  Calls Tryd.prog 38 #[.int .i64 a0, .int .i64 a1, .int .i64 a2, .int .i64 a3, .int .i64 a4, .int .i64 a5, .slice A6 l6.length c6] w fun e w' => ∃ v10_ : Value, e = .returned (.agg #[.int .i64 r1, .int .i64 r2, .int .i64 r3, .int .i64 r4, .int .i64 r5, .int .i64 r6, .int .i64 r7, .int .i64 r8, .int .i64 r9, .int .i64 r10, v10_]) ∧ Kd.R (Kd.int .i64) 3 w' w.heap.size (fun _ => True) v10_ r11 ∧ Below w.heap.size w w' := by
 have hu38 := Tryd.underlying38
 have HR6 := Aside0.mk hr6
 have HC6 := Aside0.mk hc6
 clear hr6 hc6
 have HB := Aside0.mk (Below.refl w.heap.size w)
 have H : ((slices_Clone_int_int.f l6).bind fun t625 => (some (a0, a4, a1, a2, a3, 1, a4, a5, 0, 0, t625))) = some (r1, r2, r3, r4, r5, r6, r7, r8, r9, r10, r11) := h
 clear h
 replace H := Option.bind_eq_some_iff.mp H
 obtain ⟨t625, A80, H⟩ := H
 replace H : (some (a0, a4, a1, a2, a3, 1, a4, a5, 0, 0, t625)) = some (r1, r2, r3, r4, r5, r6, r7, r8, r9, r10, r11) := H
 have A8 := Aside0.mk A80
 clear A80
 simp only [Option.some.injEq, Prod.mk.injEq] at H
 obtain ⟨rfl, rfl, rfl, rfl, rfl, rfl, rfl, rfl, rfl, rfl, rfl⟩ := H
 go_enter Tryd.func38, Tryd.ntmps38
 go_wp2_with (first | ((with_reducible refine gate_dst (N := 14) rfl ?_); refine box_event ?hg (N := 14) ?hd (cs := #[.int .i64 0, .int .i64 0, .int .i64 0, .int .i64 0, .int .i64 0, .int .i64 0, .int .i64 0, .int .i64 0, .int .i64 0, .int .i64 0, .slice none 0 0]) (t := 38) ?hr ?_; (case hd => rfl); (case hg => rfl); (case hr => first | (go_simp; done) | (go_simp; rfl)); intro gb624 hg w9 hbox hb; have n0_ := Aside0.mk (below_step (by repeat (first | (with_reducible first | exact HB.out | apply below_alloc | apply pw_below_drewN | apply below_drew1) | exact HB.out)) hb); have n1_ := Aside0.mk (hbox); have n2_ := Aside0.mk ((by rw [hg]; exact (below_size (by repeat (first | (with_reducible first | exact HB.out | apply below_alloc | apply pw_below_drewN | apply below_drew1) | exact HB.out))) : w.heap.size ≤ gb624)); have n3_ := Aside0.mk ((by rw [hg]; exact (below_size (by repeat (first | (with_reducible first | exact HB.out | apply below_alloc | apply pw_below_drewN | apply below_drew1) | exact HB.out))) : w.heap.size ≤ gb624)); clear HB; have HB := n0_; have BK624 := n1_; have GW624 := n2_; have GE624 := n3_; clear n0_ n1_ n2_ n3_; clear hb hbox hg) | ((with_reducible refine gate_callee (f := 43) rfl ?_); refine goesL_ (some 23) rfl rfl Tryd.func43 (by kernel_rfl) rfl #[.slice A6 l6.length c6] rfl (by (try simp only [List.map_toArray, List.map_cons, List.map_nil]); first | done | rfl | (simp only [List.length_drop, List.length_take]; rfl)) ?_; (with_reducible refine (slices_Clone_int_int.calls _ _ l6 t625 _ ?side1 ?side2 A8.out).mono ?_); (case side1 => repeat (first | exact (Kd.C_below HR6.out HB.out) | (with_reducible refine Kd.C_alloc ?_ _) | (with_reducible refine Kd.C_drewN ?_ _) | (with_reducible refine Kd.C_drew ?_))); (case side2 => exact HC6.out); rintro e w10 ⟨v626, rfl, ho0, hb⟩; refine ⟨_, rfl, ?_⟩; have n0_ := Aside0.mk (Kd.R_lower ho0 (below_size (by repeat (first | (with_reducible first | exact HB.out | apply below_alloc | apply pw_below_drewN | apply below_drew1 | refine below_set ?_ GE624.out) | exact HB.out)))); have n1_ := Aside0.mk (blk_below (g := gb624) (o := .cells #[.int .i64 0, .int .i64 0, .int .i64 0, .int .i64 0, .int .i64 0, .int .i64 0, .int .i64 0, .int .i64 0, .int .i64 0, .int .i64 0, .slice none 0 0] 38 (0, 0)) (by (with_reducible repeat (first | refine blk_drewN ?_ _ | refine blk_drew ?_ | refine blk_alloc ?_ _)); exact BK624.out) hb); have n2_ := Aside0.mk (below_step (by repeat (first | (with_reducible first | exact HB.out | apply below_alloc | apply pw_below_drewN | apply below_drew1 | refine below_set ?_ GE624.out) | exact HB.out)) hb); clear BK624; clear HB; have HO627 := n0_; have BK624 := n1_; have HB := n2_; clear n0_ n1_ n2_; (try clear hb); (try clear hb2); (try clear hk); (try clear hi); (try clear ho0); obtain ⟨Ao11, co11, eo11⟩ := Kd.R_slice HO627.out; subst eo11; have hcz12_0 : w10.cell? ⟨gb624, 0, none⟩ = some (.int .i64 0) := (blk_cell BK624.out 0).trans rfl; have hcz12_1 : w10.cell? ⟨gb624, 1, none⟩ = some (.int .i64 0) := (blk_cell BK624.out 1).trans rfl; have hcz12_2 : w10.cell? ⟨gb624, 2, none⟩ = some (.int .i64 0) := (blk_cell BK624.out 2).trans rfl; have hcz12_3 : w10.cell? ⟨gb624, 3, none⟩ = some (.int .i64 0) := (blk_cell BK624.out 3).trans rfl; have hcz12_4 : w10.cell? ⟨gb624, 4, none⟩ = some (.int .i64 0) := (blk_cell BK624.out 4).trans rfl; have hcz12_5 : w10.cell? ⟨gb624, 5, none⟩ = some (.int .i64 0) := (blk_cell BK624.out 5).trans rfl; have hcz12_6 : w10.cell? ⟨gb624, 6, none⟩ = some (.int .i64 0) := (blk_cell BK624.out 6).trans rfl; have hcz12_7 : w10.cell? ⟨gb624, 7, none⟩ = some (.int .i64 0) := (blk_cell BK624.out 7).trans rfl; have hcz12_8 : w10.cell? ⟨gb624, 8, none⟩ = some (.int .i64 0) := (blk_cell BK624.out 8).trans rfl; have hcz12_9 : w10.cell? ⟨gb624, 9, none⟩ = some (.int .i64 0) := (blk_cell BK624.out 9).trans rfl; have hcz12_10 : w10.cell? ⟨gb624, 10, none⟩ = some (.slice none 0 0) := (blk_cell BK624.out 10).trans rfl; have hfz12_0 := blk_frozen BK624.out 0; have hfz12_1 := blk_frozen BK624.out 1; have hfz12_2 := blk_frozen BK624.out 2; have hfz12_3 := blk_frozen BK624.out 3; have hfz12_4 := blk_frozen BK624.out 4; have hfz12_5 := blk_frozen BK624.out 5; have hfz12_6 := blk_frozen BK624.out 6; have hfz12_7 := blk_frozen BK624.out 7; have hfz12_8 := blk_frozen BK624.out 8; have hfz12_9 := blk_frozen BK624.out 9; have hfz12_10 := blk_frozen BK624.out 10))
 refine bodyPost_ret (results_cell_row rfl _ _ gb624 38 #[.int .i64 a0, .int .i64 a4, .int .i64 a1, .int .i64 a2, .int .i64 a3, .int .i64 1, .int .i64 a4, .int .i64 a5, .int .i64 0, .int .i64 0, .slice Ao11 t625.length co11] (0, 0) _ rfl (by (with_reducible repeat (first | refine blk_drewN ?_ _ | refine blk_drew ?_ | refine blk_alloc ?_ _)); refine blk_put (cs := #[.int .i64 a0, .int .i64 a4, .int .i64 a1, .int .i64 a2, .int .i64 a3, .int .i64 1, .int .i64 a4, .int .i64 a5, .int .i64 0, .int .i64 0, .slice none 0 0]) ?_ 10 _ rfl; (with_reducible repeat (first | refine blk_drewN ?_ _ | refine blk_drew ?_ | refine blk_alloc ?_ _)); refine blk_put (cs := #[.int .i64 a0, .int .i64 a4, .int .i64 a1, .int .i64 a2, .int .i64 a3, .int .i64 1, .int .i64 a4, .int .i64 a5, .int .i64 0, .int .i64 0, .slice none 0 0]) ?_ 9 _ rfl; (with_reducible repeat (first | refine blk_drewN ?_ _ | refine blk_drew ?_ | refine blk_alloc ?_ _)); refine blk_put (cs := #[.int .i64 a0, .int .i64 a4, .int .i64 a1, .int .i64 a2, .int .i64 a3, .int .i64 1, .int .i64 a4, .int .i64 a5, .int .i64 0, .int .i64 0, .slice none 0 0]) ?_ 8 _ rfl; (with_reducible repeat (first | refine blk_drewN ?_ _ | refine blk_drew ?_ | refine blk_alloc ?_ _)); refine blk_put (cs := #[.int .i64 a0, .int .i64 a4, .int .i64 a1, .int .i64 a2, .int .i64 a3, .int .i64 1, .int .i64 a4, .int .i64 0, .int .i64 0, .int .i64 0, .slice none 0 0]) ?_ 7 _ rfl; (with_reducible repeat (first | refine blk_drewN ?_ _ | refine blk_drew ?_ | refine blk_alloc ?_ _)); refine blk_put (cs := #[.int .i64 a0, .int .i64 a4, .int .i64 a1, .int .i64 a2, .int .i64 a3, .int .i64 1, .int .i64 0, .int .i64 0, .int .i64 0, .int .i64 0, .slice none 0 0]) ?_ 6 _ rfl; (with_reducible repeat (first | refine blk_drewN ?_ _ | refine blk_drew ?_ | refine blk_alloc ?_ _)); refine blk_put (cs := #[.int .i64 a0, .int .i64 a4, .int .i64 a1, .int .i64 a2, .int .i64 a3, .int .i64 0, .int .i64 0, .int .i64 0, .int .i64 0, .int .i64 0, .slice none 0 0]) ?_ 5 _ rfl; (with_reducible repeat (first | refine blk_drewN ?_ _ | refine blk_drew ?_ | refine blk_alloc ?_ _)); refine blk_put (cs := #[.int .i64 a0, .int .i64 a4, .int .i64 a1, .int .i64 a2, .int .i64 0, .int .i64 0, .int .i64 0, .int .i64 0, .int .i64 0, .int .i64 0, .slice none 0 0]) ?_ 4 _ rfl; (with_reducible repeat (first | refine blk_drewN ?_ _ | refine blk_drew ?_ | refine blk_alloc ?_ _)); refine blk_put (cs := #[.int .i64 a0, .int .i64 a4, .int .i64 a1, .int .i64 0, .int .i64 0, .int .i64 0, .int .i64 0, .int .i64 0, .int .i64 0, .int .i64 0, .slice none 0 0]) ?_ 3 _ rfl; (with_reducible repeat (first | refine blk_drewN ?_ _ | refine blk_drew ?_ | refine blk_alloc ?_ _)); refine blk_put (cs := #[.int .i64 a0, .int .i64 a4, .int .i64 0, .int .i64 0, .int .i64 0, .int .i64 0, .int .i64 0, .int .i64 0, .int .i64 0, .int .i64 0, .slice none 0 0]) ?_ 2 _ rfl; (with_reducible repeat (first | refine blk_drewN ?_ _ | refine blk_drew ?_ | refine blk_alloc ?_ _)); refine blk_put (cs := #[.int .i64 a0, .int .i64 0, .int .i64 0, .int .i64 0, .int .i64 0, .int .i64 0, .int .i64 0, .int .i64 0, .int .i64 0, .int .i64 0, .slice none 0 0]) ?_ 1 _ rfl; (with_reducible repeat (first | refine blk_drewN ?_ _ | refine blk_drew ?_ | refine blk_alloc ?_ _)); refine blk_put (cs := #[.int .i64 0, .int .i64 0, .int .i64 0, .int .i64 0, .int .i64 0, .int .i64 0, .int .i64 0, .int .i64 0, .int .i64 0, .int .i64 0, .slice none 0 0]) ?_ 0 _ rfl; (with_reducible repeat (first | refine blk_drewN ?_ _ | refine blk_drew ?_ | refine blk_alloc ?_ _)); exact BK624.out) Tryd.underlying38 rfl (by kernel_rfl)) rfl ?_
 exact ⟨_, by first | rfl | (simp [errW_none, errW_some] <;> rfl) | (simp [*, errW_none, errW_some] <;> rfl), by (with_reducible repeat (first | apply Kd.R_alloc | apply Kd.R_drewN | apply Kd.R_drew)); exact Kd.R_mono (Kd.R_far (p := ⟨gb624, 10, none⟩) (Kd.R_far (p := ⟨gb624, 9, none⟩) (Kd.R_far (p := ⟨gb624, 8, none⟩) (Kd.R_far (p := ⟨gb624, 7, none⟩) (Kd.R_far (p := ⟨gb624, 6, none⟩) (Kd.R_far (p := ⟨gb624, 5, none⟩) (Kd.R_far (p := ⟨gb624, 4, none⟩) (Kd.R_far (p := ⟨gb624, 3, none⟩) (Kd.R_far (p := ⟨gb624, 2, none⟩) (Kd.R_far (p := ⟨gb624, 1, none⟩) (Kd.R_far (p := ⟨gb624, 0, none⟩) (Kd.R_types HO627.out BK624.out (by decide)) (fun _ hk => hk.2) (.int .i64 a0)) (fun _ hk => hk.2) (.int .i64 a4)) (fun _ hk => hk.2) (.int .i64 a1)) (fun _ hk => hk.2) (.int .i64 a2)) (fun _ hk => hk.2) (.int .i64 a3)) (fun _ hk => hk.2) (.int .i64 1)) (fun _ hk => hk.2) (.int .i64 a4)) (fun _ hk => hk.2) (.int .i64 a5)) (fun _ hk => hk.2) (.int .i64 0)) (fun _ hk => hk.2) (.int .i64 0)) (fun _ hk => hk.2) (.slice Ao11 t625.length co11)) (fun _ hk => trivial), by repeat (first | (with_reducible first | exact HB.out | apply below_alloc | apply pw_below_drewN | apply below_drew1 | refine below_set ?_ GE624.out) | exact HB.out)⟩

def customsref33_SameInts.l0 : Nat → List Int → List Int → Int → Option (Bool)
 | 0, _, _, _ => none
 | k + 1, x0, x1, x5 => if x5 < (x0.length : Int) then (if 0 ≤ x5 then (if x5 < (x1.length : Int) then (if (rd x0 x5) = (rd x1 x5) then (customsref33_SameInts.l0 k x0 x1 (wrap64 (x5 + 1))) else (some false)) else (none)) else (none)) else (some true)
def customsref33_SameInts.f (k : Nat) (l0 : List Int) (l1 : List Int) : Option (Bool) := if (l0.length : Int) = (l1.length : Int) then (customsref33_SameInts.l0 k l0 l1 0) else (some false)
set_option maxHeartbeats 8000000 in
set_option maxRecDepth 100000 in
theorem customsref33_SameInts.calls (k : Nat) (A0 : Option Addr) (c0 : Nat) (l0 : List Int) (A1 : Option Addr) (c1 : Nat) (l1 : List Int) (r : Bool) (w : World) (hr0 : Kd.C (Kd.int .i64) w A0 l0.length l0) (hc0 : l0.length ≤ c0) (hr1 : Kd.C (Kd.int .i64) w A1 l1.length l1) (hc1 : l1.length ≤ c1) (h : customsref33_SameInts.f k l0 l1 = some r) :
  Calls Tryd.prog 22 #[.slice A0 l0.length c0, .slice A1 l1.length c1] w fun e w' => e = .returned (.bool r) ∧ Drawn0 w w' := by
 have HR0 := Aside0.mk hr0
 have HC0 := Aside0.mk hc0
 clear hr0 hc0
 have HR1 := Aside0.mk hr1
 have HC1 := Aside0.mk hc1
 clear hr1 hc1
 have H : (if (l0.length : Int) = (l1.length : Int) then (customsref33_SameInts.l0 k l0 l1 0) else (some false)) = some r := h
 clear h
 by_cases c3 : (l0.length : Int) = (l1.length : Int)
 ·
  rw [if_pos c3] at H
  have c3b0 : ((l0.length : Int) == (l1.length : Int)) = true := beq_iff_eq.mpr c3
  have c3b1 : ((l0.length : Int) != (l1.length : Int)) = false := bne_eq_false_iff_eq.mpr c3
  have c3b2 : (l0.length == l1.length) = true := by first | simpa using c3 | (simp at c3 ⊢; omega)
  clear c3
  have H' := Aside0.mk H
  clear H
  go_enter Tryd.func22, Tryd.ntmps22
  go_wp2
  repeat (go_quiet (fail); try go_wp2)
  go_loopg [5] k (fun kq v5 w' => ∃ (x5_1 : Int), v5 = .int .i64 x5_1 ∧ Aside0 (customsref33_SameInts.l0 kq l0 l1 x5_1 = some r) ∧ Aside0 (kq ≤ k) ∧ Drawn0 w w')
  case atStart => exact ⟨(0), (by first | rfl | (simp; done) | (simp [*]; done)), H', ⟨Nat.le_refl _⟩, by repeat (first | exact Drawn0.refl _ | apply Drawn0.step)⟩
  case round =>
   clear H'
   try clear c1
   try clear c2
   try clear p2
   try clear c3
   try clear c3b0
   try clear c3b1
   try clear c3b2
   obtain ⟨x5_1, rfl, HA, HK1, ⟨m1, rfl⟩⟩ := hrel
   cases gk with
   | zero => exact absurd HA.out (by simp [customsref33_SameInts.l0])
   | succ k1 =>
    have H := HA.out
    clear HA
    simp only [customsref33_SameInts.l0] at H
    by_cases c4 : x5_1 < (l0.length : Int)
    ·
     rw [if_pos c4] at H
     have c4b0 : decide (x5_1 < (l0.length : Int)) = true := decide_eq_true c4
     clear c4
     by_cases c5 : 0 ≤ x5_1
     ·
      rw [if_pos c5] at H
      have c5b0 : decide (0 ≤ x5_1) = true := decide_eq_true c5
      clear c5
      by_cases c6 : x5_1 < (l1.length : Int)
      ·
       rw [if_pos c6] at H
       have c6b0 : decide (x5_1 < (l1.length : Int)) = true := decide_eq_true c6
       clear c6
       by_cases c7 : (rd l0 x5_1) = (rd l1 x5_1)
       ·
        rw [if_pos c7] at H
        have c7b0 : ((rd l0 x5_1) == (rd l1 x5_1)) = true := beq_iff_eq.mpr c7
        have c7b1 : ((rd l0 x5_1) != (rd l1 x5_1)) = false := bne_eq_false_iff_eq.mpr c7
        clear c7
        have H' := Aside0.mk H
        clear H
        have p170 : 0 ≤ (x5_1 : Int) := of_decide_eq_true (by first | (with_reducible assumption) | assumption)
        have q170 : x5_1 < (l0.length : Int) := of_decide_eq_true (by first | (with_reducible assumption) | assumption)
        obtain ⟨ad170, e170, hx170_0⟩ := Kd.at_int HR0.out x5_1 p170 q170
        cases e170
        replace p170 := eq_true p170
        replace q170 := eq_true q170
        have p171 : 0 ≤ (x5_1 : Int) := of_decide_eq_true (by first | (with_reducible assumption) | assumption)
        have q171 : x5_1 < (l1.length : Int) := of_decide_eq_true (by first | (with_reducible assumption) | assumption)
        obtain ⟨ad171, e171, hx171_0⟩ := Kd.at_int HR1.out x5_1 p171 q171
        cases e171
        replace p171 := eq_true p171
        replace q171 := eq_true q171
        go_wp2
        repeat (go_quiet (fail); try go_wp2)
        go_roundg k1
        case measure => have := HK1.out; omega
        case rel => exact ⟨(wrap64 (x5_1 + 1)), (by first | rfl | (simp; done) | (simp [*]; done)), H', ⟨by have := HK1.out; omega⟩, by repeat (first | exact Drawn0.refl _ | apply Drawn0.step)⟩
       ·
        rw [if_neg c7] at H
        have c7b0 : ((rd l0 x5_1) == (rd l1 x5_1)) = false := beq_eq_false_iff_ne.mpr c7
        have c7b1 : ((rd l0 x5_1) != (rd l1 x5_1)) = true := bne_iff_ne.mpr c7
        obtain rfl := Option.some.inj H
        have p170 : 0 ≤ (x5_1 : Int) := of_decide_eq_true (by first | (with_reducible assumption) | assumption)
        have q170 : x5_1 < (l0.length : Int) := of_decide_eq_true (by first | (with_reducible assumption) | assumption)
        obtain ⟨ad170, e170, hx170_0⟩ := Kd.at_int HR0.out x5_1 p170 q170
        cases e170
        replace p170 := eq_true p170
        replace q170 := eq_true q170
        have p171 : 0 ≤ (x5_1 : Int) := of_decide_eq_true (by first | (with_reducible assumption) | assumption)
        have q171 : x5_1 < (l1.length : Int) := of_decide_eq_true (by first | (with_reducible assumption) | assumption)
        obtain ⟨ad171, e171, hx171_0⟩ := Kd.at_int HR1.out x5_1 p171 q171
        cases e171
        replace p171 := eq_true p171
        replace q171 := eq_true q171
        go_wp2
        repeat (go_quiet (fail); try go_wp2)
        go_ret
        exact ⟨by first | rfl | (simp; done) | (simp [*]; done), by repeat (first | exact Drawn0.refl _ | apply Drawn0.step)⟩
      ·
       rw [if_neg c6] at H
       exact absurd H (by simp)
     ·
      rw [if_neg c5] at H
      exact absurd H (by simp)
    ·
     rw [if_neg c4] at H
     have c4b0 : decide (x5_1 < (l0.length : Int)) = false := decide_eq_false c4
     clear c4
     obtain rfl := Option.some.inj H
     go_wp2
     repeat (go_quiet (fail); try go_wp2)
     go_ret
     exact ⟨by first | rfl | (simp; done) | (simp [*]; done), by repeat (first | exact Drawn0.refl _ | apply Drawn0.step)⟩
 ·
  rw [if_neg c3] at H
  have c3b0 : ((l0.length : Int) == (l1.length : Int)) = false := beq_eq_false_iff_ne.mpr c3
  have c3b1 : ((l0.length : Int) != (l1.length : Int)) = true := bne_iff_ne.mpr c3
  have c3b2 : (l0.length == l1.length) = false := by first | simpa using c3 | (simp at c3 ⊢; omega)
  obtain rfl := Option.some.inj H
  go_enter Tryd.func22, Tryd.ntmps22
  go_wp2
  repeat (go_quiet (fail); try go_wp2)
  go_ret
  exact ⟨by first | rfl | (simp; done) | (simp [*]; done), by repeat (first | exact Drawn0.refl _ | apply Drawn0.step)⟩

end Go.Proofs.YtbndoihcejieoaaDoor.G
namespace Go.Proofs.YtbndoihcejieoaaDoor.G
open Go.RowKit Go.Proofs.YtbndoihcejieoaaDoorW.PrintWords Go.Proofs.YtbndoihcejieoaaDoorW.PrintLast Go.Proofs.YtbndoihcejieoaaDoorW.PrintMore
set_option linter.unusedVariables false
set_option linter.unusedSimpArgs false

def zeroA : Arr := ⟨0, 0, 0, 0, 0, ⟨#[]⟩, 0, 0, [], [], []⟩
def awakeL : List Int := [1, 5, 3, 6]
/-- The transfer of 'awake' behind i actions. -/
def awakeT : Nat → Tr
 | 0 => ⟨⟨1, 1, 2, 3, 4, 1, 1, 50, 0, 0, [7]⟩, zeroA, [], []⟩
 | i + 1 => stepT (awakeT i) (rd awakeL (i : Int))
theorem awake_end : (awakeT 4).d.a5 = 4 ∧ (awakeT 4).a.b3 = 3 ∧ (awakeT 4).f = [] := by decide +kernel
theorem awake_fits (i : Nat) (hi : i ≤ 4) : (awakeT i).Fits := by
 have h : ∀ j, j ≤ 4 → (awakeT j).d.s.length ≤ 9 ∧ (awakeT j).a.sl.length ≤ 9 ∧ (awakeT j).a.se.length ≤ 9 ∧ (awakeT j).a.fo.length ≤ 9 ∧ (awakeT j).f.length ≤ 9 ∧ (awakeT j).b.length ≤ 9 := by decide +kernel
 obtain ⟨h1, h2, h3, h4, h5, h6⟩ := h i hi
 exact ⟨by omega, ⟨by omega, by omega, by omega⟩, by omega, by omega⟩
theorem setL_sorted (l : List Int) (h : l.Pairwise (fun a b => a < b)) : setL l = l := by
 have h1 : (l.mergeSort fun x y => decide (x ≤ y)) = l := List.mergeSort_of_pairwise (h.imp (fun hab => by simpa using Int.le_of_lt hab))
 unfold setL
 rw [h1]
 refine Lib.compact_all l (fun j hj => ?_)
 unfold Lib.keeps
 rw [decide_eq_true_eq]
 by_cases hj0 : j = 0
 ·
  exact .inl hj0
 ·
  right
  rw [getElem!_pos l.toArray j (by simpa using hj), getElem!_pos l.toArray (j - 1) (by simp; omega)]
  have := List.pairwise_iff_getElem.1 h (j - 1) j (by omega) hj (by omega)
  simp only [List.getElem_toArray]
  omega
theorem awake_less1 : lessL [6, 8] [8, 9] = [6] := by
 unfold lessL
 rw [setL_sorted _ (by decide)]
 decide
theorem awake_less2 : lessL [8, 9] [6, 8] = [9] := by
 unfold lessL
 rw [setL_sorted _ (by decide)]
 decide
theorem built_tf0 (d : Dep) (v : Value) (h : v.oneCell' = true) : Tryd.prog.built 40 [(0, .agg (d.c v))] = some (tf (d.c v) (zeroA.c (.slice none 0 0) (.slice none 0 0) (.slice none 0 0)) (.slice none 0 0) (.slice none 0 0)) := by
 unfold Dep.c Arr.c tf zeroA
 kernel_rfl
theorem Rd.nil {α : Type} (d : Kd α) (w : World) : Rd d w (.slice none 0 0) ([] : List α) := ⟨none, 0, rfl, Nat.le_refl _, Kd.C_nil d w⟩
/-- The variable t (block g) holds a transfer. -/
structure At (g : Nat) (W : World) (t : Tr) (vd v8 v9 v10 vf vb : Value) : Prop where
 at_ : W.heap[g]? = some (.cells (tf (t.d.c vd) (t.a.c v8 v9 v10) vf vb) 40 (0, 0))
 o : RdK (Kd.int .i64) (fun k => k = g) W vd t.d.s
 a : t.a.RdK (fun k => k = g) W v8 v9 v10
 f : RdK (Kd.int .i64) (fun k => k = g) W vf t.f
 b : RdK (Kd.int .i64) (fun k => k = g) W vb t.b
section
variable {W W1 : World} {g : Nat} {t : Tr} {vd v8 v9 v10 vf vb : Value}
theorem At.below (h : At g W t vd v8 v9 v10 vf vb) (b : Below W.heap.size W W1) : At g W1 t vd v8 v9 v10 vf vb :=
 ⟨blk_below h.at_ b, h.o.below b, h.a.mv (Mv.of_below b (fun _ => False)) (fun _ hk => hk.elim), h.f.below b, h.b.below b⟩
theorem At.d (h : At g W t vd v8 v9 v10 vf vb) : Elf (t.d.c vd) := t.d.elf h.o.now.one
theorem At.e (h : At g W t vd v8 v9 v10 vf vb) : Elf (t.a.c v8 v9 v10) := t.a.elf h.a.r8.now.one h.a.r9.now.one h.a.r10.now.one
/-- Another transfer is stored. -/
theorem At.put {n : Nat} {t' : Tr} {ud u8 u9 u10 uf ub : Value} (hg : g < n) (h : Out n W t' ud u8 u9 u10 uf ub) (h2 : W1.heap[g]? = some (.cells (tf (t'.d.c ud) (t'.a.c u8 u9 u10) uf ub) 40 (0, 0))) (k : Same g W W1) : At g W1 t' ud u8 u9 u10 uf ub :=
 have q : ∀ i, i = g → i < n := fun i hi => by omega
 have m : Mv (fun i => i = g) W W1 := Mv.same _ rfl k
 ⟨h2, (h.o.anti q).mv m (fun _ hk => hk), (h.a.anti q).mv m (fun _ hk => hk), (h.f.anti q).mv m (fun _ hk => hk), (h.b.anti q).mv m (fun _ hk => hk)⟩
theorem RdK.nil {α : Type} (d : Kd α) (P : Nat → Prop) (w : World) : RdK d P w (.slice none 0 0) ([] : List α) := fun W _ => Rd.nil d W
end
section
variable {P : Program} {ops : Array Oper} {rest : List Oper} {o : Oper} {a : Act} {Q : Exit → Act → World → Prop}
/-- A guarded operation that is wanted: the kernel looks. -/
theorem wpList_wanted {W : World} {gd : Nat × Bool} (hg : o.guard = some gd) (hw : Region.wanted o (yielded ops a.tmps) = true) (h : ∀ K : Act → World → Prop, (∀ a w, wpList P ops Q rest a w → K a w) → o.wp P a W K Q) : wpList P ops Q (o :: rest) a W :=
 wpList_step fun K hK => by
  rw [if_pos hw]
  exact h K hK
/-- A list written out, told by its block. -/
theorem lit_event {W : World} (hgd : o.guard = none) {N : Tmp} (_hd : o.dst = some N) {cs : Array Value} {t : TypeId} {n : Nat}
  (hrun : (execOp a.eval o).run P W = .ok (.value (.slice (some ⟨W.heap.size, 0, none⟩) n n)) (W.alloc (.cells cs t (0, 0))))
  (h : ∀ g, g = W.heap.size → ∀ w1, w1.heap[g]? = some (.cells cs t (0, 0)) → Below W.heap.size W w1 → wpList P ops Q rest (a.put o.dst (.slice (some ⟨g, 0, none⟩) n n)) w1) : wpList P ops Q (o :: rest) a W :=
 Kd.event_run hgd hrun (h _ rfl _ (blk_new W _) (below_alloc (Below.refl _ _) _))
end
/-- A row of numbers in a block, read. -/
theorem lit_C {W : World} {g : Nat} {l : List Int} (h : W.heap[g]? = some (.cells (l.map (Value.int .i64)).toArray 3 (0, 0))) (hl : l.length ≤ 9223372036854775807) : Kd.C (Kd.int .i64) W (some ⟨g, 0, none⟩) l.length l := by
 refine ⟨rfl, hl, fun _ => ⟨_, rfl, fun j p hj => ⟨[.int .i64 p], rfl, rfl, fun i u hu => ?_⟩⟩⟩
 obtain rfl : i = 0 := by
  have := (List.getElem?_eq_some_iff.1 hu).1
  simpa using this
 have e : u = .int .i64 p := by simpa using hu.symm
 subst e
 have hc := cell_of_row W g j _ 3 (0, 0) h
 have ea : (⟨g, 0, none⟩ : Addr).add (j * 1 + 0) = ⟨g, j, none⟩ := by rw [Addr.add_mid]; simp
 show W.cell? ((⟨g, 0, none⟩ : Addr).add (j * 1 + 0)) = _
 rw [ea, hc]
 simp [hj]
end Go.Proofs.YtbndoihcejieoaaDoor.G
namespace Go.Proofs.YtbndoihcejieoaaDoor.G
open Go.RowKit Go.Proofs.YtbndoihcejieoaaDoorW.PrintWords Go.Proofs.YtbndoihcejieoaaDoorW.PrintLast Go.Proofs.YtbndoihcejieoaaDoorW.PrintMore
attribute [local go_sem] max2_int min2_int max_two min_two max_three min_three max_four min_four   -- for this text's walks alone
set_option linter.unusedVariables false
set_option linter.unusedSimpArgs false

def awake_T6 : Bool × List (List Nat × List Nat) := (true, [([], []), ([], []), ([], []), ([1, 2], [1, 2]), ([3], [3]), ([0, 4], [0, 4]), ([5, 5, 0, 1, 2, 3, 4, 5], [5])])
def awake_B6 : List Nat := [0, 0, 0, 6, 14, 31, 63]
theorem awake_tab6 : rtab .any (opsOf Tryd.f16 6) = awake_T6 := by kernel_rfl
theorem awake_bits6 : waitsOk awake_T6.2 awake_B6 = true := by kernel_rfl
theorem awake_cell {W : World} {gl i : Nat} (h : W.heap[gl]? = some (.cells #[.int .i64 1, .int .i64 5, .int .i64 3, .int .i64 6] 3 (0, 0))) (hi : i < 4) : W.cell? ⟨gl, i, none⟩ = some (.int .i64 (rd awakeL i)) := by
 rw [cell_of_row W gl i _ 3 (0, 0) h]
 rcases (by omega : i = 0 ∨ i = 1 ∨ i = 2 ∨ i = 3) with rfl | rfl | rfl | rfl <;> rfl
theorem step_calls2 (t : Tr) (action : Int) (tn : Tr) (vd v8 v9 v10 vf vb : Value) (w : World) (h : stepT t action = tn) (hd : Rd (Kd.int .i64) w vd t.d.s) (ha : t.a.Rd w v8 v9 v10) (hf : Rd (Kd.int .i64) w vf t.f) (hb : Rd (Kd.int .i64) w vb t.b) (hF : t.Fits) (hG : GL_changes w) :
  Calls Tryd.prog 18 #[.agg (tf (t.d.c vd) (t.a.c v8 v9 v10) vf vb), .int .i64 action] w fun e w' => ∃ ud u8 u9 u10 uf ub : Value, e = .returned (.agg (tf (tn.d.c ud) (tn.a.c u8 u9 u10) uf ub)) ∧ Out w.heap.size w' tn ud u8 u9 u10 uf ub ∧ Below w.heap.size w w' := by
 subst h
 exact step_calls t action vd v8 v9 v10 vf vb w hd ha hf hb hF hG
set_option maxHeartbeats 8000000 in
set_option maxRecDepth 100000 in
theorem awake_calls (w : World) (hG : GL_changes w) : Calls Tryd.prog 16 #[] w fun e w' => e = .returned (.bool true) ∧ Below w.heap.size w w' := by
 have HG := Aside0.mk hG
 clear hG
 obtain ⟨t0, h0⟩ : ∃ t0, awakeT 0 = t0 := ⟨_, rfl⟩
 have H0 := Aside0.mk h0
 have ED : Aside0 (∀ v : Value, #[.int .i64 1, .int .i64 1, .int .i64 2, .int .i64 3, .int .i64 4, .int .i64 1, .int .i64 1, .int .i64 50, .int .i64 0, .int .i64 0, v] = t0.d.c v) := ⟨fun v => by rw [← h0]; rfl⟩
 have EA : Aside0 (t0.d.s = [7] ∧ t0.a = zeroA ∧ t0.f = [] ∧ t0.b = []) := ⟨by rw [← h0]; exact ⟨rfl, rfl, rfl, rfl⟩⟩
 clear h0
 have hu40 := Tryd.underlying40
 have hu38 := Tryd.underlying38
 have hu27 := Tryd.underlying27
 go_enter Tryd.func16, Tryd.ntmps16
 go_wp2_with (first
  | ((with_reducible refine gate_dst (N := 6) rfl ?_); refine lit_event rfl (N := 6) rfl (cs := #[.int .i64 7]) (t := 3) (n := 1) ?hr ?_; (case hr => first | (go_simp; done) | (go_simp; rfl)); intro ga hg w1 h1 b1; have A1 := Aside0.mk h1; have B1 := Aside0.mk b1; clear hg h1 b1)
  | (go_at_call 38; refine (transit_Start.calls 1 2 3 4 1 50 (some ⟨ga, 0, none⟩) 1 [7] 1 1 2 3 4 1 1 50 0 0 [7] w1 (lit_C (l := [7]) A1.out (by decide)) (Nat.le_refl _) rfl).mono ?_; rintro e w2 ⟨v, he, ho, hb⟩; rw [ED.out v] at he; subst he; rw [← EA.out.1] at ho; have O2 := Aside0.mk (RdK.of_R (P := fun k => w2.heap.size ≤ k) ho (fun i _ _ hi hk => by omega)); have B2 := Aside0.mk (B1.out.trans (hb.mono B1.out.size)); have V2 := Aside0.mk (rone ho); clear ho hb A1 B1)
  | ((with_reducible refine gate_dst (N := 8) rfl ?_); refine Kd.event_run rfl (v := .agg (tf (t0.d.c v) (zeroA.c (.slice none 0 0) (.slice none 0 0) (.slice none 0 0)) (.slice none 0 0) (.slice none 0 0))) (w1 := w2) (exec_build rfl (built_tf0 t0.d v V2.out) (by simp only [List.map_toArray, List.map_cons, List.map_nil]; rfl)) ?_)
  | ((with_reducible refine gate_dst (N := 1) rfl ?_); refine box_event rfl (N := 1) rfl (cs := zero24) (t := 40) ?hr ?_; (case hr => first | (go_simp; done) | (go_simp; rfl)); intro g hg w3 h1 b1; have A3 := Aside0.mk h1; have B3 := Aside0.mk (B2.out.trans (b1.mono B2.out.size)); have O3 := Aside0.mk (O2.out.below b1); have HG3 := Aside0.mk hg; have GW := Aside0.mk (show w.heap.size ≤ g by rw [hg]; exact B2.out.size); clear h1 b1 B2 O2 hg)
  | ((with_reducible refine gate_store (t := 40) (p := 1) rfl ?_); refine ev_store rfl (ty := 40) (p := 1) rfl rfl (q := .pointer (some ⟨g, 0, none⟩)) (v := .agg (tf (t0.d.c v) (zeroA.c (.slice none 0 0) (.slice none 0 0) (.slice none 0 0)) (.slice none 0 0) (.slice none 0 0))) rfl rfl (store_all A3.out zero24_size (Dep.elf _ V2.out) (zeroA.elf rfl rfl rfl) rfl rfl) ?_; intro w4 hF; have m4 : Mv (fun k => w2.heap.size ≤ k) w3 w4 := Mv.same _ (by rw [HG3.out]; exact Nat.le_refl _) hF.2; have T4 : Aside0 (At g w4 t0 v (.slice none 0 0) (.slice none 0 0) (.slice none 0 0) (.slice none 0 0) (.slice none 0 0)) := ⟨⟨by rw [EA.out.2.1]; exact hF.1, (O3.out.mv m4 (fun _ hk => hk)).anti (fun i hi => by rw [hi, HG3.out]; exact Nat.le_refl _), by rw [EA.out.2.1]; exact ⟨RdK.nil _ _ _, RdK.nil _ _ _, RdK.nil _ _ _⟩, by rw [EA.out.2.2.1]; exact RdK.nil _ _ _, by rw [EA.out.2.2.2]; exact RdK.nil _ _ _⟩⟩; have B4 := Aside0.mk ((Mv.of_below B3.out (fun _ => False)).then_ (Mv.same (fun k => k = g) rfl hF.2) (fun k hk => .inr (by rw [hk]; exact GW.out)) |>.below (Nat.le_refl _) (fun _ hk => hk.elim)); clear hF A3 B3 O3 m4 HG3)
  | ((with_reducible refine gate_dst (N := 9) rfl ?_); refine lit_event rfl (N := 9) rfl (cs := #[.int .i64 1, .int .i64 5, .int .i64 3, .int .i64 6]) (t := 3) (n := 4) ?hr ?_; (case hr => first | (go_simp; done) | (go_simp; rfl)); intro gl hg w5 h1 b1; have A5 := Aside0.mk h1; have T5 := Aside0.mk (T4.out.below b1); have B5 := Aside0.mk (B4.out.trans (b1.mono B4.out.size)); have NE := Aside0.mk (show gl ≠ g by have := blk_lt T4.out.at_; omega); clear hg h1 b1 T4 B4))
 go_loopw [3] (fun v wr => ∃ (i : Nat) (t : Tr) (vd v8 v9 v10 vf vb : Value), i ≤ 4 ∧ v = .int .i64 i ∧ Aside0 (t = awakeT i) ∧ Aside0 (At g wr t vd v8 v9 v10 vf vb) ∧ Aside0 (wr.heap[gl]? = some (.cells #[.int .i64 1, .int .i64 5, .int .i64 3, .int .i64 6] 3 (0, 0))) ∧ Aside0 (Below w.heap.size w wr)) (fun v _ => 4 - (intOf v).toNat)
 case atStart => exact ⟨0, t0, _, _, _, _, _, _, by omega, rfl, ⟨H0.out.symm⟩, T5, A5, B5⟩
 case round =>
  obtain ⟨i, t, vd, v8, v9, v10, vf, vb, hi, rfl, HTi, HT, HL, HB⟩ := hrel
  by_cases hlt : i < 4
  ·
   have hlt' : (i : Int) < 4 := by omega
   obtain ⟨tn, htn⟩ : ∃ tn, stepT t (rd awakeL i) = tn := ⟨_, rfl⟩
   have HN := Aside0.mk htn
   have HTn : Aside0 (tn = awakeT (i + 1)) := ⟨by rw [← htn, HTi.out]; rfl⟩
   clear htn
   try go_wp2
   have TD := Aside0.mk (HT.out.below (Below.refl _ _).drew)
   have LD := Aside0.mk (blk_drew HL.out)
   have BD := Aside0.mk (HB.out.trans (Below.refl _ _).drew)
   clear HT HL HB
   refine start_ (n := 7) (S := fun w' => w'.heap[g]? = some (.cells (tf (t.d.c vd) (t.a.c v8 v9 v10) vf vb) 40 (0, 0)) ∧ w'.heap[gl]? = some (.cells #[.int .i64 1, .int .i64 5, .int .i64 3, .int .i64 6] 3 (0, 0))) (ds := [6]) #[false, false, false, false, false, false, false] (by kernel_rfl) rfl rfl ⟨TD.out.at_, LD.out⟩ (fun hHeld => ?_); refine with_tabW awake_tab6 awake_bits6 (fun HT_ HW_ => ?_)
   generalize wr.drew = wd at TD LD BD hHeld ⊢
   refine pure_ (i := 1) (N := some 17) (v := ?_) (a' := ?_) #[false, true, false, false, false, false, false] rfl rfl (any_of HT_.out (by kernel_rfl)) (fun _ _ _ h => h) (Or.inl ⟨by rfl, ?_⟩) ?_ ?_
   rotate_left
   ·
    intro w'
    go_simp
    with_reducible rfl
   rotate_left
   ·
    simp only [Act.put, List.setIfInBounds_toArray, List.set_cons_zero, List.set_cons_succ, i64_w, i32_w]
    rfl
   refine pure_ (i := 2) (N := some 18) (v := ?_) (a' := ?_) #[false, true, true, false, false, false, false] rfl rfl (any_of HT_.out (by kernel_rfl)) (fun _ _ _ h => h) (Or.inl ⟨by rfl, ?_⟩) ?_ ?_
   rotate_left
   ·
    intro w'
    go_simp
    with_reducible rfl
   rotate_left
   ·
    simp only [Act.put, List.setIfInBounds_toArray, List.set_cons_zero, List.set_cons_succ, i64_w, i32_w]
    rfl
   refine pure_ (i := 3) (N := some 19) (v := ?_) (a' := ?_) #[false, true, true, true, false, false, false] rfl rfl (any_of HT_.out (by kernel_rfl)) (fun _ _ _ h => h) (Or.inl ⟨by rfl, ?_⟩) ?_ ?_
   rotate_left
   ·
    intro w'
    go_simp
    with_reducible rfl
   rotate_left
   ·
    simp only [Act.put, List.setIfInBounds_toArray, List.set_cons_zero, List.set_cons_succ, i64_w, i32_w]
    rfl
   refine take_ (i := 0) (N := some 16) (v := .agg (tf (t.d.c vd) (t.a.c v8 v9 v10) vf vb)) (a' := ?_) #[true, true, true, true, false, false, false] rfl rfl (take_ofW HT_.out HW_.out (by kernel_rfl)) (fun _ _ _ h => h) (Or.inl ⟨by rfl, fun w' hs => by
     exact exec_load rfl (q := .pointer (some ⟨g, 0, none⟩)) rfl (load_all hs.1 TD.out.d TD.out.e)⟩) hHeld ?_ ?_
   rotate_left
   ·
    simp only [Act.put, List.setIfInBounds_toArray, List.set_cons_zero, List.set_cons_succ, i64_w, i32_w]
    rfl
   refine take_ (i := 4) (N := some 20) (v := .int .i64 (rd awakeL i)) (a' := ?_) #[true, true, true, true, true, false, false] rfl rfl (take_ofW HT_.out HW_.out (by kernel_rfl)) (fun _ _ _ h => h) (Or.inl ⟨by rfl, fun w' hs => by
     have hc : w'.cell? ⟨gl, i, none⟩ = some (.int .i64 (rd awakeL i)) := awake_cell hs.2 hlt
     go_simp⟩) hHeld ?_ ?_
   rotate_left
   ·
    simp only [Act.put, List.setIfInBounds_toArray, List.set_cons_zero, List.set_cons_succ, i64_w, i32_w]
    rfl
   refine one_ (i := 5) (N := some 21) #[true, true, true, true, true, true, false] rfl rfl (one_of HT_.out (by kernel_rfl)) (by decide) (fun K hK => ?_)
   refine goes_ Tryd.func18 (by kernel_rfl) rfl #[.agg (tf (t.d.c vd) (t.a.c v8 v9 v10) vf vb), .int .i64 (rd awakeL i)] (by rfl) rfl rfl (by (try simp only [List.map_toArray, List.map_cons, List.map_nil]); first | done | rfl) ?_
   refine (step_calls2 t (rd awakeL i) tn vd v8 v9 v10 vf vb wd HN.out TD.out.o.now TD.out.a.now TD.out.f.now TD.out.b.now (by rw [HTi.out]; exact awake_fits i (by omega)) (HG.out.of_below BD.out)).mono ?_
   rintro e w7 ⟨ud, u8, u9, u10, uf, ub, rfl, ho, hb⟩
   refine ⟨_, rfl, ?_⟩
   have O7 := Aside0.mk ho
   have X7 := Aside0.mk (blk_below TD.out.at_ hb)
   have L7 := Aside0.mk (blk_below LD.out hb)
   have B7 := Aside0.mk (BD.out.trans (hb.mono BD.out.size))
   have GD := Aside0.mk (blk_lt TD.out.at_)
   have Z7 := Aside0.mk (tf_size TD.out.d TD.out.e (vf := vf) (vb := vb))
   clear ho hb TD LD BD
   refine hK.out _ _ ⟨X7.out, L7.out⟩ (fun hHeld => ?_)
   clear hK K
   refine norm_ (a' := ?_) ?_ ?_
   rotate_left
   ·
    show Act.put _ (some 21) _ = _
    simp only [Act.put, List.setIfInBounds_toArray, List.set_cons_zero, List.set_cons_succ, i64_w, i32_w]
    rfl
   have e7 := store_all X7.out Z7.out (Dep.elf tn.d O7.out.o.now.one) (Arr.elf tn.a O7.out.a.r8.now.one O7.out.a.r9.now.one O7.out.a.r10.now.one) O7.out.f.now.one O7.out.b.now.one
   obtain ⟨w8, hh⟩ := e7
   have hr := hh.1
   have hF := hh.2
   clear hh
   have T8 := Aside0.mk (At.put GD.out O7.out hF.1 hF.2)
   have L8 := Aside0.mk ((hF.2.block _ NE.out).trans L7.out)
   have B8 := Aside0.mk ((Mv.of_below B7.out (fun _ => False)).then_ (Mv.same (fun k => k = g) rfl hF.2) (fun k hk => .inr (by rw [hk]; exact GW.out)) |>.below (Nat.le_refl _) (fun _ hk => hk.elim))
   refine last_store (i := 6) (w1 := w8) #[true, true, true, true, true, true, true] rfl rfl (one_of HT_.out (by kernel_rfl)) (by decide) (by rfl) (exec_store rfl (q := .pointer (some ⟨g, 0, none⟩)) (v := .agg (tf (tn.d.c ud) (tn.a.c u8 u9 u10) uf ub)) rfl rfl hr) ?_
   clear hr hF O7 X7 L7 B7 Z7
   refine done_ (done_of HT_.out (by kernel_rfl)) ?_
   go_wp2
   go_roundw
   case rel => exact ⟨i + 1, tn, ud, u8, u9, u10, uf, ub, by omega, by go_num, HTn, T8, L8, B8⟩
   case measure => simp [intOf]; omega
  ·
   obtain rfl : i = 4 := by omega
   have hlt' : ¬ ((4 : Nat) : Int) < 4 := by omega
   have HE : Aside0 (t.d.a5 = 4 ∧ t.a.b3 = 3 ∧ t.f = []) := ⟨by rw [HTi.out]; exact awake_end⟩
   clear HTi
   go_wp2_with (first
    | (refine wpList_wanted rfl (by kernel_rfl) ?_; intro K hK)
    | ((with_reducible refine gate_dst (N := 23) rfl ?_); refine lit_event rfl (N := 23) rfl (cs := #[.int .i64 6, .int .i64 8]) (t := 3) (n := 2) ?hr ?_; (case hr => first | (go_simp; done) | (go_simp; rfl)); intro gx hg wx h1 b1; have Ax := Aside0.mk h1; have Bx := Aside0.mk b1; clear hg h1 b1)
    | ((with_reducible refine gate_dst (N := 24) rfl ?_); refine lit_event rfl (N := 24) rfl (cs := #[.int .i64 8, .int .i64 9]) (t := 3) (n := 2) ?hr ?_; (case hr => first | (go_simp; done) | (go_simp; rfl)); intro gy hg wy h1 b1; have Ay := Aside0.mk h1; have Ax2 := Aside0.mk (blk_below Ax.out b1); have By := Aside0.mk (Bx.out.trans (b1.mono Bx.out.size)); clear hg h1 b1 Ax Bx)
    | (go_at_call 20; refine (compare_calls (some ⟨gx, 0, none⟩) 2 [6, 8] (some ⟨gy, 0, none⟩) 2 [8, 9] wy (lit_C (l := [6, 8]) Ax2.out (by decide)) (Nat.le_refl _) (lit_C (l := [8, 9]) Ay.out (by decide)) (Nat.le_refl _) (by decide) (by decide)).mono ?_; rintro e wz ⟨v1, v2, rfl, h1, h2, hb⟩; rw [awake_less1] at h1; rw [awake_less2] at h2; have Bz := Aside0.mk (By.out.trans (hb.mono By.out.size)); have R1 := Aside0.mk (Kd.R_reads h1); have R2 := Aside0.mk (Kd.R_reads h2); clear h1 h2 hb Ax2 Ay By; have TZ := Aside0.mk (HT.out.below Bz.out); have hc30 : wz.cell? ⟨g, 5, none⟩ = some (.int .i64 4) := (cell_dep TZ.out.at_ TZ.out.d (j := 5) (v := .int .i64 t.d.a5) (by decide) rfl).trans (by rw [HE.out.1]); have hc35 : wz.cell? ⟨g, 14, none⟩ = some (.int .i64 3) := (tf_cell TZ.out.at_ 14).trans ((tf_a (j := 3) TZ.out.d TZ.out.e (by decide)).trans (by show some (Value.int .i64 t.a.b3) = _; rw [HE.out.2.1])); have hc40 := cell_f TZ.out.at_ TZ.out.d TZ.out.e; obtain ⟨A7, c7, e7, _⟩ := TZ.out.f.now; rw [e7, HE.out.2.2] at hc40; obtain ⟨X1, k1, q1, l1, r1⟩ := R1.out; subst q1; obtain ⟨X2, k2, q2, l2, r2⟩ := R2.out; subst q2; have E1 := Aside0.mk (And.intro r1 l1); have E2 := Aside0.mk (And.intro r2 l2); have W9 := Aside0.mk (HB.out.trans (Bz.out.mono HB.out.size)); clear l1 r1 l2 r2 R1 R2 TZ e7 Bz HT HL HB)
    | (go_at_call 22; first | (have _q := Bq.out; clear _q; refine (customsref33_SameInts.calls 4 X2 k2 [9] (some ⟨wq.heap.size, 0, none⟩) 1 [9] true _ (Kd.C_below E2.out.1 (Bq.out.trans ((below_alloc (Below.refl _ _) _).mono Bq.out.size))) E2.out.2 (lit_C (l := [9]) (blk_new wq _) (by decide)) (Nat.le_refl _) (by decide +kernel)).mono ?_; rintro e wr2 ⟨rfl, ⟨nd2, hq2⟩⟩; have Bt2 : Aside0 (Below wz.heap.size wz wr2) := ⟨by rw [hq2]; exact (Bq.out.trans ((below_alloc (Below.refl _ _) _).mono Bq.out.size)).trans (below_drewN' (Below.refl _ _) nd2)⟩; clear hq2) | (refine (customsref33_SameInts.calls 4 X1 k1 [6] (some ⟨wz.heap.size, 0, none⟩) 1 [6] true _ (Kd.C_below E1.out.1 (below_alloc (Below.refl _ _) _)) E1.out.2 (lit_C (l := [6]) (blk_new wz _) (by decide)) (Nat.le_refl _) (by decide +kernel)).mono ?_; rintro e wq ⟨rfl, ⟨nd, hq⟩⟩; have Bq : Aside0 (Below wz.heap.size wz wq) := ⟨by rw [hq]; exact (below_alloc (Below.refl _ _) _).trans (below_drewN' (Below.refl _ _) nd)⟩; clear hq)))
   go_ret
   exact ⟨rfl, W9.out.trans (Bt2.out.mono W9.out.size)⟩


theorem eqA89 (d : Nat) (w : World) (x0 y0 : Int) (x1 y1 : Int) (x2 y2 : Int) :
  (Op.equalIn (d + 2) 89 (.agg #[.int .i64 x0, .int .i64 x1, .int .i64 x2]) (.agg #[.int .i64 y0, .int .i64 y1, .int .i64 y2])).run Tryd.prog w = .ok (x0 == y0 && (x1 == y1 && (x2 == y2))) w := by
 refine eqA_of Tryd.underlying89 (by kernel_rfl) ?_
 refine eqf_cons (by rfl) (by go_simp; rfl) (by go_simp; rfl) (by go_simp) ?_
 refine eqf_cons (by rfl) (by go_simp; rfl) (by go_simp; rfl) (by go_simp) ?_
 exact eqf_last (by rfl) (by go_simp; rfl) (by go_simp; rfl) (by go_simp)
def customsmade_Within.f (a0 : Int) (a1 : Int) : Option (Int) := if a1 = 0 then (none) else (some (Int.tmod (wrap64 ((Int.tmod a0 a1) + a1)) a1))
set_option maxHeartbeats 8000000 in
set_option maxRecDepth 100000 in
theorem customsmade_Within.calls (a0 : Int) (a1 : Int) (r : Int) (w : World) (h : customsmade_Within.f a0 a1 = some r) :
  Calls Tryd.prog 8 #[.int .i64 a0, .int .i64 a1] w fun e w' => e = .returned (.int .i64 r) ∧ Drawn0 w w' := by
 have H : (if a1 = 0 then (none) else (some (Int.tmod (wrap64 ((Int.tmod a0 a1) + a1)) a1))) = some r := h
 clear h
 by_cases c3 : a1 = 0
 ·
  rw [if_pos c3] at H
  exact absurd H (by simp)
 ·
  rw [if_neg c3] at H
  have c3b0 : (a1 == 0) = false := beq_eq_false_iff_ne.mpr c3
  have c3b1 : (a1 != 0) = true := bne_iff_ne.mpr c3
  obtain rfl := Option.some.inj H
  go_enter Tryd.func8, Tryd.ntmps8
  go_wp2
  go_ret
  exact ⟨by first | rfl | (simp; done) | (simp [*]; done), by repeat (first | exact Drawn0.refl _ | apply Drawn0.step)⟩

end Go.Proofs.YtbndoihcejieoaaDoor.G
namespace Go.Proofs.YtbndoihcejieoaaDoor.G
open Go.RowKit Go.Proofs.YtbndoihcejieoaaDoorW.PrintWords Go.Proofs.YtbndoihcejieoaaDoorW.PrintLast Go.Proofs.YtbndoihcejieoaaDoorW.PrintMore
set_option linter.unusedVariables false
set_option linter.unusedSimpArgs false

theorem clone_big {l : List Int} (h : l.length ≤ 17592186043904) : slices_Clone_int_int.f l = some l := if_pos (by omega)
section
variable {w : World} {v v8 v9 v10 u8 u9 u10 x4 : Value}
theorem Rd.toV {α : Type} {d : Kd α} {e : Nat} (hd : Kd.Heap d) {A : Option Addr} {c : Nat} {l : List α} (hc : l.length ≤ c) (h : d.C w A l.length l) : Kd.V d e w w.heap.size (fun k => (fun k => k < w.heap.size) k) (.slice A l.length c) l := ⟨A, c, rfl, hc, Kd.C_F hd h⟩
theorem Rd.ofV {α : Type} {d : Kd α} {e b : Nat} {ok : Nat → Prop} {l : List α} (h : Kd.V d e w b ok v l) : Rd d w v l := by
 obtain ⟨A, c, rfl⟩ := Kd.V_slice h
 exact ⟨A, c, rfl, (Kd.V_reads' h).2.1, (Kd.V_reads' h).2.2⟩
end
end Go.Proofs.YtbndoihcejieoaaDoor.G
namespace Go.Proofs.YtbndoihcejieoaaDoor.G
open Go.RowKit Go.Proofs.YtbndoihcejieoaaDoorW.PrintWords Go.Proofs.YtbndoihcejieoaaDoorW.PrintLast Go.Proofs.YtbndoihcejieoaaDoorW.PrintMore
attribute [local go_sem] max2_int min2_int max_two min_two max_three min_three max_four min_four   -- for this text's walks alone
set_option linter.unusedVariables false
set_option linter.unusedSimpArgs false

theorem w_up {n : Int} (h : -9223372036854775808 ≤ n) (h' : n ≤ 9223372036854775807) : wrap64 n = n := by unfold wrap64; omega
theorem same_ints_l0 (l : List Int) (hl : l.length ≤ 17592186043904) (d : Nat) : ∀ i : Int, (l.length : Int) - i = d → 0 ≤ i → Ev (fun k => customsref33_SameInts.l0 k l l i) true := by
 induction d with
 | zero =>
  intro i hd h0
  refine Ev.step (f := fun _ => some true) (fun k => ?_) (Ev.now _)
  simp only [customsref33_SameInts.l0]
  rw [if_neg (by omega)]
 | succ d ih =>
  intro i hd h0
  refine Ev.step (f := fun k => customsref33_SameInts.l0 k l l (i + 1)) (fun k => ?_) (ih (i + 1) (by omega) (by omega))
  simp only [customsref33_SameInts.l0]
  rw [if_pos (by omega), if_pos h0, if_pos (by omega), if_pos trivial, w_up (by omega) (by omega)]
theorem same_ints (l : List Int) (hl : l.length ≤ 17592186043904) : Ev (fun k => customsref33_SameInts.f k l l) true :=
 Ev.congr (fun k => by unfold customsref33_SameInts.f; exact if_pos rfl) (same_ints_l0 l hl l.length 0 (by omega) (by omega))
section
variable {w : World} {v8 v9 v10 u8 u9 u10 : Value}
end
section
variable {w : World} {v v8 v9 v10 x4 : Value}
end
/-- A variable (block g) that holds an arrival. -/
structure Va (W : World) (g : Nat) (b : Arr) (u8 u9 u10 : Value) : Prop where
 at_ : W.heap[g]? = some (.cells (b.c u8 u9 u10) 27 (0, 0))
 rd : b.Rd W u8 u9 u10
section
variable {w W W1 : World} {g g0 : Nat} {b : Arr} {u8 u9 u10 : Value}
theorem Va.below (h : Va W g b u8 u9 u10) (k : Below W.heap.size W W1) : Va W1 g b u8 u9 u10 := ⟨blk_below h.at_ k, h.rd.below k⟩
theorem Va.load (h : Va W g b u8 u9 u10) : (Instr.loadAt 27 (.pointer (some ⟨g, 0, none⟩))).run Tryd.prog W = .ok (.agg (b.c u8 u9 u10)) W := load_eleven Tryd.underlying27 rfl (by kernel_rfl) h.at_ h.rd.elf.size
def zero11 : Array Value := #[.int .i64 0, .int .i64 0, .int .i64 0, .int .i64 0, .int .i64 0, .string (⟨#[]⟩ : ByteArray), .int .i64 0, .int .i64 0, .slice none 0 0, .slice none 0 0, .slice none 0 0]
/-- A new variable, and what is stored into it. -/
theorem Va.store (hg : g = W.heap.size) (h1 : W1.heap[g]? = some (.cells zero11 27 (0, 0))) (b1 : Below W.heap.size W W1) (h : b.Rd W u8 u9 u10) :
  ∃ W2, (Instr.storeAt 27 (.pointer (some ⟨g, 0, none⟩)) (.agg (b.c u8 u9 u10))).run Tryd.prog W1 = .ok () W2 ∧ Va W2 g b u8 u9 u10 ∧ Below W.heap.size W W2 := by
 obtain ⟨W2, hr, h2, hF⟩ := store_eleven (by kernel_rfl) h1 rfl h.elf
 have hb : Below W.heap.size W W2 := (Mv.of_below b1 (fun _ => False)).then_ (Mv.same (fun k => k = g) rfl hF) (fun k hk => .inr (by rw [hk, hg]; exact Nat.le_refl _)) |>.below (Nat.le_refl _) (fun _ hk => hk.elim)
 exact ⟨W2, hr, ⟨h2, h.below hb⟩, hb⟩
end
/-- The variable that holds the lot. -/
structure Vl (W : World) (g : Nat) (q0 : Int) (q1 : ByteArray) (q2 q3 : Int) (x4 : Value) (ls : List S89) : Prop where
 at_ : W.heap[g]? = some (.cells #[.int .i64 q0, .string q1, .int .i64 q2, .int .i64 q3, x4] 24 (0, 0))
 rd : Rd k89 W x4 ls
theorem Vl.below {W W1 : World} {g : Nat} {q0 : Int} {q1 : ByteArray} {q2 q3 : Int} {x4 : Value} {ls : List S89} (h : Vl W g q0 q1 q2 q3 x4 ls) (k : Below W.heap.size W W1) : Vl W1 g q0 q1 q2 q3 x4 ls := ⟨blk_below h.at_ k, h.rd.below k⟩
section
variable {P : Program} {ops : Array Oper} {rest : List Oper} {o : Oper} {a : Act} {Q : Exit → Act → World → Prop}
end
theorem below_below {w W W1 : World} (h : Below w.heap.size w W) (k : Below W.heap.size W W1) : Below w.heap.size w W1 := h.trans (k.mono h.size)
theorem drawn0_below' {w w' : World} (h : Drawn0 w w') : Below w.heap.size w w' := by
 obtain ⟨n, rfl⟩ := h
 exact below_drewN' (Below.refl _ _) n
def adjB (d : Dep) (duty : Int) : Dep × Bool := if d.a5 = 3 then (if d.a7 = duty then (d, false) else ({ d with a6 := wrap64 (d.a6 + 1), a7 := duty, a8 := mn d.a8 duty }, true)) else (d, false)
def resB (d : Dep) (c : Int) : Dep × Bool := if d.a5 = 3 then ({ d with a5 := 4, a8 := 0, a9 := c }, true) else (d, false)
def misB (d : Dep) : Dep × Bool := if d.a5 = 3 then ({ d with a5 := 5, a8 := 0 }, true) else (d, false)
section
variable {w : World} {v : Value}
set_option maxHeartbeats 4000000 in
set_option maxRecDepth 100000 in
theorem radj_e (d : Dep) (duty : Int) (h : Rd (Kd.int .i64) w v d.s) :
  Calls Tryd.prog 28 #[.agg (d.c v), .int .i64 duty] w fun e w' => ∃ u : Value, e = .returned (.tuple #[.agg ((adjB d duty).1.c u), .bool (adjB d duty).2]) ∧ Rd (Kd.int .i64) w' u (adjB d duty).1.s ∧ Below w.heap.size w w' := by
 have HD := Aside0.mk h
 clear h
 have hu38 := Tryd.underlying38
 by_cases c5 : d.a5 = 3
 ·
  by_cases c7 : d.a7 = duty
  ·
   have HDD := HD
   rw [show adjB d duty = (d, false) from by simp [adjB, c5, c7]]
   have c5b : (d.a5 == 3) = true := beq_iff_eq.mpr c5
   have c5n : (d.a5 != 3) = false := bne_eq_false_iff_eq.mpr c5
   have c7b : (d.a7 == duty) = true := beq_iff_eq.mpr c7
   have c7n : (d.a7 != duty) = false := bne_eq_false_iff_eq.mpr c7
   clear c5 c7
   go_enter Tryd.func28, Tryd.ntmps28
   go_wp2_with (first
    | ((with_reducible refine gate_dst (N := 2) rfl ?_); refine box_event rfl (N := 2) rfl (cs := d.c v) (t := 38) ?hr ?_; (case hr => first | (go_simp; done) | (go_simp; rfl)); intro gx hg w1 h1 b1; have P1 := Aside0.mk (And.intro hg (And.intro h1 b1)); clear hg h1 b1)
    | ((with_reducible refine gate_dst (N := 4) rfl ?_); refine box_event rfl (N := 4) rfl (cs := zeroE) (t := 38) ?hr ?_; (case hr => first | (go_simp; done) | (go_simp; rfl)); intro gr hg w2 h1 b1; have E := Aside0.mk (Ed.start P1.out ⟨hg, h1, b1⟩ rfl); have V := Aside0.mk (HD.out.below E.out.b); clear HD; have hc5 : w2.cell? ⟨gx, 5, none⟩ = some (.int .i64 d.a5) := (cell_of_row w2 gx 5 _ 38 (0, 0) E.out.at1).trans rfl; have hc6 : w2.cell? ⟨gx, 6, none⟩ = some (.int .i64 d.a6) := (cell_of_row w2 gx 6 _ 38 (0, 0) E.out.at1).trans rfl; have hc7 : w2.cell? ⟨gx, 7, none⟩ = some (.int .i64 d.a7) := (cell_of_row w2 gx 7 _ 38 (0, 0) E.out.at1).trans rfl; have hc8 : w2.cell? ⟨gx, 8, none⟩ = some (.int .i64 d.a8) := (cell_of_row w2 gx 8 _ 38 (0, 0) E.out.at1).trans rfl; clear hg h1 b1 P1)
    | ((with_reducible refine gate_dst (N := 15) rfl ?_); refine ev_load rfl (N := 15) rfl rfl (q := .pointer (some ⟨gx, 0, none⟩)) (v := .agg ((d : Dep).c v)) rfl (load38e E.out.at1) ?_)
    | ((with_reducible refine gate_store (t := 38) (p := 4) rfl ?_); obtain ⟨old, ho2, h2⟩ := E.out.at2; refine ev_store rfl (ty := 38) (p := 4) rfl rfl (q := .pointer (some ⟨gr, 0, none⟩)) (v := .agg ((d : Dep).c v)) rfl rfl (store_eleven (tt := 38) (by kernel_rfl) h2 ho2 (Dep.elf _ V.out.one)) ?_; intro w9 hF; have AF := Aside0.mk hF.1; have BF := Aside0.mk (E.out.done hF.2); clear hF ho2 h2))
   refine bodyPost_ret (results_ct rfl _ _ gr 38 ((d : Dep).c v) (0, 0) _ rfl AF.out Tryd.underlying38 rfl (by kernel_rfl)) rfl ?_
   exact ⟨v, rfl, HDD.out.below BF.out, BF.out⟩
  ·
   have HDD := HD
   rw [show adjB d duty = ({ d with a6 := wrap64 (d.a6 + 1), a7 := duty, a8 := mn d.a8 duty }, true) from by simp [adjB, c5, c7]]
   have c5b : (d.a5 == 3) = true := beq_iff_eq.mpr c5
   have c5n : (d.a5 != 3) = false := bne_eq_false_iff_eq.mpr c5
   have c7b : (d.a7 == duty) = false := beq_eq_false_iff_ne.mpr c7
   have c7n : (d.a7 != duty) = true := bne_iff_ne.mpr c7
   clear c5 c7
   go_enter Tryd.func28, Tryd.ntmps28
   go_wp2_with (first
    | ((with_reducible refine gate_dst (N := 2) rfl ?_); refine box_event rfl (N := 2) rfl (cs := d.c v) (t := 38) ?hr ?_; (case hr => first | (go_simp; done) | (go_simp; rfl)); intro gx hg w1 h1 b1; have P1 := Aside0.mk (And.intro hg (And.intro h1 b1)); clear hg h1 b1)
    | ((with_reducible refine gate_dst (N := 4) rfl ?_); refine box_event rfl (N := 4) rfl (cs := zeroE) (t := 38) ?hr ?_; (case hr => first | (go_simp; done) | (go_simp; rfl)); intro gr hg w2 h1 b1; have E := Aside0.mk (Ed.start P1.out ⟨hg, h1, b1⟩ rfl); have V := Aside0.mk (HD.out.below E.out.b); clear HD; have hc5 : w2.cell? ⟨gx, 5, none⟩ = some (.int .i64 d.a5) := (cell_of_row w2 gx 5 _ 38 (0, 0) E.out.at1).trans rfl; have hc6 : w2.cell? ⟨gx, 6, none⟩ = some (.int .i64 d.a6) := (cell_of_row w2 gx 6 _ 38 (0, 0) E.out.at1).trans rfl; have hc7 : w2.cell? ⟨gx, 7, none⟩ = some (.int .i64 d.a7) := (cell_of_row w2 gx 7 _ 38 (0, 0) E.out.at1).trans rfl; have hc8 : w2.cell? ⟨gx, 8, none⟩ = some (.int .i64 d.a8) := (cell_of_row w2 gx 8 _ 38 (0, 0) E.out.at1).trans rfl; clear hg h1 b1 P1)
    | ((with_reducible refine gate_store (t := 3) (p := 24) rfl ?_); refine ev_store rfl (ty := 3) (p := 24) rfl rfl (q := .pointer (some ⟨gx, 6, none⟩)) (v := .int .i64 (wrap64 (d.a6 + 1))) rfl rfl (store_one E.out.at1 6 (by show 6 < 11; omega) (.int .i64 (wrap64 (d.a6 + 1))) rfl (T' := ({ d with a6 := wrap64 (d.a6 + 1) } : Dep).c v) rfl 3 (by kernel_rfl)) ?_; intro s0 hF; have E5 := Aside0.mk (E.out.put1 hF.1 hF.2); clear hF E hc5 hc6 hc7 hc8)
    | ((with_reducible refine gate_store (t := 3) (p := 25) rfl ?_); refine ev_store rfl (ty := 3) (p := 25) rfl rfl (q := .pointer (some ⟨gx, 7, none⟩)) (v := .int .i64 duty) rfl rfl (store_one E5.out.at1 7 (by show 7 < 11; omega) (.int .i64 duty) rfl (T' := ({ d with a6 := wrap64 (d.a6 + 1), a7 := duty } : Dep).c v) rfl 3 (by kernel_rfl)) ?_; intro s1 hF; have E6 := Aside0.mk (E5.out.put1 hF.1 hF.2); clear hF E5)
    | ((with_reducible refine gate_store (t := 3) (p := 26) rfl ?_); refine ev_store rfl (ty := 3) (p := 26) rfl rfl (q := .pointer (some ⟨gx, 8, none⟩)) (v := .int .i64 (mn d.a8 duty)) rfl rfl (store_one E6.out.at1 8 (by show 8 < 11; omega) (.int .i64 (mn d.a8 duty)) rfl (T' := ({ d with a6 := wrap64 (d.a6 + 1), a7 := duty, a8 := mn d.a8 duty } : Dep).c v) rfl 3 (by kernel_rfl)) ?_; intro s2 hF; have E7 := Aside0.mk (E6.out.put1 hF.1 hF.2); clear hF E6)
    | ((with_reducible refine gate_dst (N := 27) rfl ?_); refine ev_load rfl (N := 27) rfl rfl (q := .pointer (some ⟨gx, 0, none⟩)) (v := .agg (({ d with a6 := wrap64 (d.a6 + 1), a7 := duty, a8 := mn d.a8 duty } : Dep).c v)) rfl (load38e E7.out.at1) ?_)
    | ((with_reducible refine gate_store (t := 38) (p := 4) rfl ?_); obtain ⟨old, ho2, h2⟩ := E7.out.at2; refine ev_store rfl (ty := 38) (p := 4) rfl rfl (q := .pointer (some ⟨gr, 0, none⟩)) (v := .agg (({ d with a6 := wrap64 (d.a6 + 1), a7 := duty, a8 := mn d.a8 duty } : Dep).c v)) rfl rfl (store_eleven (tt := 38) (by kernel_rfl) h2 ho2 (Dep.elf _ V.out.one)) ?_; intro w9 hF; have AF := Aside0.mk hF.1; have BF := Aside0.mk (E7.out.done hF.2); clear hF ho2 h2))
   all_goals (refine bodyPost_ret (results_ct rfl _ _ gr 38 (({ d with a6 := wrap64 (d.a6 + 1), a7 := duty, a8 := mn d.a8 duty } : Dep).c v) (0, 0) _ rfl AF.out Tryd.underlying38 rfl (by kernel_rfl)) rfl ?_; exact ⟨v, rfl, HDD.out.below BF.out, BF.out⟩)
 ·
  have HDD := HD
  rw [show adjB d duty = (d, false) from by simp [adjB, c5]]
  have c5b : (d.a5 == 3) = false := beq_eq_false_iff_ne.mpr c5
  have c5n : (d.a5 != 3) = true := bne_iff_ne.mpr c5
  clear c5
  go_enter Tryd.func28, Tryd.ntmps28
  go_wp2_with (first
   | ((with_reducible refine gate_dst (N := 2) rfl ?_); refine box_event rfl (N := 2) rfl (cs := d.c v) (t := 38) ?hr ?_; (case hr => first | (go_simp; done) | (go_simp; rfl)); intro gx hg w1 h1 b1; have P1 := Aside0.mk (And.intro hg (And.intro h1 b1)); clear hg h1 b1)
   | ((with_reducible refine gate_dst (N := 4) rfl ?_); refine box_event rfl (N := 4) rfl (cs := zeroE) (t := 38) ?hr ?_; (case hr => first | (go_simp; done) | (go_simp; rfl)); intro gr hg w2 h1 b1; have E := Aside0.mk (Ed.start P1.out ⟨hg, h1, b1⟩ rfl); have V := Aside0.mk (HD.out.below E.out.b); clear HD; have hc5 : w2.cell? ⟨gx, 5, none⟩ = some (.int .i64 d.a5) := (cell_of_row w2 gx 5 _ 38 (0, 0) E.out.at1).trans rfl; have hc6 : w2.cell? ⟨gx, 6, none⟩ = some (.int .i64 d.a6) := (cell_of_row w2 gx 6 _ 38 (0, 0) E.out.at1).trans rfl; have hc7 : w2.cell? ⟨gx, 7, none⟩ = some (.int .i64 d.a7) := (cell_of_row w2 gx 7 _ 38 (0, 0) E.out.at1).trans rfl; have hc8 : w2.cell? ⟨gx, 8, none⟩ = some (.int .i64 d.a8) := (cell_of_row w2 gx 8 _ 38 (0, 0) E.out.at1).trans rfl; clear hg h1 b1 P1)
   | ((with_reducible refine gate_dst (N := 15) rfl ?_); refine ev_load rfl (N := 15) rfl rfl (q := .pointer (some ⟨gx, 0, none⟩)) (v := .agg ((d : Dep).c v)) rfl (load38e E.out.at1) ?_)
   | ((with_reducible refine gate_store (t := 38) (p := 4) rfl ?_); obtain ⟨old, ho2, h2⟩ := E.out.at2; refine ev_store rfl (ty := 38) (p := 4) rfl rfl (q := .pointer (some ⟨gr, 0, none⟩)) (v := .agg ((d : Dep).c v)) rfl rfl (store_eleven (tt := 38) (by kernel_rfl) h2 ho2 (Dep.elf _ V.out.one)) ?_; intro w9 hF; have AF := Aside0.mk hF.1; have BF := Aside0.mk (E.out.done hF.2); clear hF ho2 h2))
  refine bodyPost_ret (results_ct rfl _ _ gr 38 ((d : Dep).c v) (0, 0) _ rfl AF.out Tryd.underlying38 rfl (by kernel_rfl)) rfl ?_
  exact ⟨v, rfl, HDD.out.below BF.out, BF.out⟩
set_option maxHeartbeats 4000000 in
set_option maxRecDepth 100000 in
theorem rres_e (d : Dep) (c : Int) (h : Rd (Kd.int .i64) w v d.s) :
  Calls Tryd.prog 30 #[.agg (d.c v), .int .i64 c] w fun e w' => ∃ u : Value, e = .returned (.tuple #[.agg ((resB d c).1.c u), .bool (resB d c).2]) ∧ Rd (Kd.int .i64) w' u (resB d c).1.s ∧ Below w.heap.size w w' := by
 have HD := Aside0.mk h
 clear h
 have hu38 := Tryd.underlying38
 by_cases c5 : d.a5 = 3
 ·
  have HDD := HD
  rw [show resB d c = ({ d with a5 := 4, a9 := c, a8 := 0 }, true) from by simp [resB, c5]]
  have c5b : (d.a5 == 3) = true := beq_iff_eq.mpr c5
  have c5n : (d.a5 != 3) = false := bne_eq_false_iff_eq.mpr c5
  clear c5
  go_enter Tryd.func30, Tryd.ntmps30
  go_wp2_with (first
   | ((with_reducible refine gate_dst (N := 2) rfl ?_); refine box_event rfl (N := 2) rfl (cs := d.c v) (t := 38) ?hr ?_; (case hr => first | (go_simp; done) | (go_simp; rfl)); intro gx hg w1 h1 b1; have P1 := Aside0.mk (And.intro hg (And.intro h1 b1)); clear hg h1 b1)
   | ((with_reducible refine gate_dst (N := 4) rfl ?_); refine box_event rfl (N := 4) rfl (cs := zeroE) (t := 38) ?hr ?_; (case hr => first | (go_simp; done) | (go_simp; rfl)); intro gr hg w2 h1 b1; have E := Aside0.mk (Ed.start P1.out ⟨hg, h1, b1⟩ rfl); have V := Aside0.mk (HD.out.below E.out.b); clear HD; have hc5 : w2.cell? ⟨gx, 5, none⟩ = some (.int .i64 d.a5) := (cell_of_row w2 gx 5 _ 38 (0, 0) E.out.at1).trans rfl; have hc6 : w2.cell? ⟨gx, 6, none⟩ = some (.int .i64 d.a6) := (cell_of_row w2 gx 6 _ 38 (0, 0) E.out.at1).trans rfl; have hc7 : w2.cell? ⟨gx, 7, none⟩ = some (.int .i64 d.a7) := (cell_of_row w2 gx 7 _ 38 (0, 0) E.out.at1).trans rfl; have hc8 : w2.cell? ⟨gx, 8, none⟩ = some (.int .i64 d.a8) := (cell_of_row w2 gx 8 _ 38 (0, 0) E.out.at1).trans rfl; clear hg h1 b1 P1)
   | ((with_reducible refine gate_store (t := 3) (p := 11) rfl ?_); refine ev_store rfl (ty := 3) (p := 11) rfl rfl (q := .pointer (some ⟨gx, 5, none⟩)) (v := .int .i64 4) rfl rfl (store_one E.out.at1 5 (by show 5 < 11; omega) (.int .i64 4) rfl (T' := ({ d with a5 := 4 } : Dep).c v) rfl 3 (by kernel_rfl)) ?_; intro s0 hF; have E5 := Aside0.mk (E.out.put1 hF.1 hF.2); clear hF E hc5 hc6 hc7 hc8)
   | ((with_reducible refine gate_store (t := 3) (p := 12) rfl ?_); refine ev_store rfl (ty := 3) (p := 12) rfl rfl (q := .pointer (some ⟨gx, 9, none⟩)) (v := .int .i64 c) rfl rfl (store_one E5.out.at1 9 (by show 9 < 11; omega) (.int .i64 c) rfl (T' := ({ d with a5 := 4, a9 := c } : Dep).c v) rfl 3 (by kernel_rfl)) ?_; intro s1 hF; have E6 := Aside0.mk (E5.out.put1 hF.1 hF.2); clear hF E5)
   | ((with_reducible refine gate_store (t := 3) (p := 13) rfl ?_); refine ev_store rfl (ty := 3) (p := 13) rfl rfl (q := .pointer (some ⟨gx, 8, none⟩)) (v := .int .i64 0) rfl rfl (store_one E6.out.at1 8 (by show 8 < 11; omega) (.int .i64 0) rfl (T' := ({ d with a5 := 4, a9 := c, a8 := 0 } : Dep).c v) rfl 3 (by kernel_rfl)) ?_; intro s2 hF; have E7 := Aside0.mk (E6.out.put1 hF.1 hF.2); clear hF E6)
   | ((with_reducible refine gate_dst (N := 14) rfl ?_); refine ev_load rfl (N := 14) rfl rfl (q := .pointer (some ⟨gx, 0, none⟩)) (v := .agg (({ d with a5 := 4, a9 := c, a8 := 0 } : Dep).c v)) rfl (load38e E7.out.at1) ?_)
   | ((with_reducible refine gate_store (t := 38) (p := 4) rfl ?_); obtain ⟨old, ho2, h2⟩ := E7.out.at2; refine ev_store rfl (ty := 38) (p := 4) rfl rfl (q := .pointer (some ⟨gr, 0, none⟩)) (v := .agg (({ d with a5 := 4, a9 := c, a8 := 0 } : Dep).c v)) rfl rfl (store_eleven (tt := 38) (by kernel_rfl) h2 ho2 (Dep.elf _ V.out.one)) ?_; intro w9 hF; have AF := Aside0.mk hF.1; have BF := Aside0.mk (E7.out.done hF.2); clear hF ho2 h2))
  refine bodyPost_ret (results_ct rfl _ _ gr 38 (({ d with a5 := 4, a9 := c, a8 := 0 } : Dep).c v) (0, 0) _ rfl AF.out Tryd.underlying38 rfl (by kernel_rfl)) rfl ?_
  exact ⟨v, rfl, HDD.out.below BF.out, BF.out⟩
 ·
  have HDD := HD
  rw [show resB d c = (d, false) from by simp [resB, c5]]
  have c5b : (d.a5 == 3) = false := beq_eq_false_iff_ne.mpr c5
  have c5n : (d.a5 != 3) = true := bne_iff_ne.mpr c5
  clear c5
  go_enter Tryd.func30, Tryd.ntmps30
  go_wp2_with (first
   | ((with_reducible refine gate_dst (N := 2) rfl ?_); refine box_event rfl (N := 2) rfl (cs := d.c v) (t := 38) ?hr ?_; (case hr => first | (go_simp; done) | (go_simp; rfl)); intro gx hg w1 h1 b1; have P1 := Aside0.mk (And.intro hg (And.intro h1 b1)); clear hg h1 b1)
   | ((with_reducible refine gate_dst (N := 4) rfl ?_); refine box_event rfl (N := 4) rfl (cs := zeroE) (t := 38) ?hr ?_; (case hr => first | (go_simp; done) | (go_simp; rfl)); intro gr hg w2 h1 b1; have E := Aside0.mk (Ed.start P1.out ⟨hg, h1, b1⟩ rfl); have V := Aside0.mk (HD.out.below E.out.b); clear HD; have hc5 : w2.cell? ⟨gx, 5, none⟩ = some (.int .i64 d.a5) := (cell_of_row w2 gx 5 _ 38 (0, 0) E.out.at1).trans rfl; have hc6 : w2.cell? ⟨gx, 6, none⟩ = some (.int .i64 d.a6) := (cell_of_row w2 gx 6 _ 38 (0, 0) E.out.at1).trans rfl; have hc7 : w2.cell? ⟨gx, 7, none⟩ = some (.int .i64 d.a7) := (cell_of_row w2 gx 7 _ 38 (0, 0) E.out.at1).trans rfl; have hc8 : w2.cell? ⟨gx, 8, none⟩ = some (.int .i64 d.a8) := (cell_of_row w2 gx 8 _ 38 (0, 0) E.out.at1).trans rfl; clear hg h1 b1 P1)
   | ((with_reducible refine gate_dst (N := 9) rfl ?_); refine ev_load rfl (N := 9) rfl rfl (q := .pointer (some ⟨gx, 0, none⟩)) (v := .agg ((d : Dep).c v)) rfl (load38e E.out.at1) ?_)
   | ((with_reducible refine gate_store (t := 38) (p := 4) rfl ?_); obtain ⟨old, ho2, h2⟩ := E.out.at2; refine ev_store rfl (ty := 38) (p := 4) rfl rfl (q := .pointer (some ⟨gr, 0, none⟩)) (v := .agg ((d : Dep).c v)) rfl rfl (store_eleven (tt := 38) (by kernel_rfl) h2 ho2 (Dep.elf _ V.out.one)) ?_; intro w9 hF; have AF := Aside0.mk hF.1; have BF := Aside0.mk (E.out.done hF.2); clear hF ho2 h2))
  refine bodyPost_ret (results_ct rfl _ _ gr 38 ((d : Dep).c v) (0, 0) _ rfl AF.out Tryd.underlying38 rfl (by kernel_rfl)) rfl ?_
  exact ⟨v, rfl, HDD.out.below BF.out, BF.out⟩
set_option maxHeartbeats 4000000 in
set_option maxRecDepth 100000 in
theorem rmis_e (d : Dep) (h : Rd (Kd.int .i64) w v d.s) :
  Calls Tryd.prog 32 #[.agg (d.c v)] w fun e w' => ∃ u : Value, e = .returned (.tuple #[.agg ((misB d).1.c u), .bool (misB d).2]) ∧ Rd (Kd.int .i64) w' u (misB d).1.s ∧ Below w.heap.size w w' := by
 have HD := Aside0.mk h
 clear h
 have hu38 := Tryd.underlying38
 by_cases c5 : d.a5 = 3
 ·
  have HDD := HD
  rw [show misB d = ({ d with a5 := 5, a8 := 0 }, true) from by simp [misB, c5]]
  have c5b : (d.a5 == 3) = true := beq_iff_eq.mpr c5
  have c5n : (d.a5 != 3) = false := bne_eq_false_iff_eq.mpr c5
  clear c5
  go_enter Tryd.func32, Tryd.ntmps32
  go_wp2_with (first
   | ((with_reducible refine gate_dst (N := 1) rfl ?_); refine box_event rfl (N := 1) rfl (cs := d.c v) (t := 38) ?hr ?_; (case hr => first | (go_simp; done) | (go_simp; rfl)); intro gx hg w1 h1 b1; have P1 := Aside0.mk (And.intro hg (And.intro h1 b1)); clear hg h1 b1)
   | ((with_reducible refine gate_dst (N := 2) rfl ?_); refine box_event rfl (N := 2) rfl (cs := zeroE) (t := 38) ?hr ?_; (case hr => first | (go_simp; done) | (go_simp; rfl)); intro gr hg w2 h1 b1; have E := Aside0.mk (Ed.start P1.out ⟨hg, h1, b1⟩ rfl); have V := Aside0.mk (HD.out.below E.out.b); clear HD; have hc5 : w2.cell? ⟨gx, 5, none⟩ = some (.int .i64 d.a5) := (cell_of_row w2 gx 5 _ 38 (0, 0) E.out.at1).trans rfl; have hc6 : w2.cell? ⟨gx, 6, none⟩ = some (.int .i64 d.a6) := (cell_of_row w2 gx 6 _ 38 (0, 0) E.out.at1).trans rfl; have hc7 : w2.cell? ⟨gx, 7, none⟩ = some (.int .i64 d.a7) := (cell_of_row w2 gx 7 _ 38 (0, 0) E.out.at1).trans rfl; have hc8 : w2.cell? ⟨gx, 8, none⟩ = some (.int .i64 d.a8) := (cell_of_row w2 gx 8 _ 38 (0, 0) E.out.at1).trans rfl; clear hg h1 b1 P1)
   | ((with_reducible refine gate_store (t := 3) (p := 8) rfl ?_); refine ev_store rfl (ty := 3) (p := 8) rfl rfl (q := .pointer (some ⟨gx, 5, none⟩)) (v := .int .i64 5) rfl rfl (store_one E.out.at1 5 (by show 5 < 11; omega) (.int .i64 5) rfl (T' := ({ d with a5 := 5 } : Dep).c v) rfl 3 (by kernel_rfl)) ?_; intro s0 hF; have E5 := Aside0.mk (E.out.put1 hF.1 hF.2); clear hF E hc5 hc6 hc7 hc8)
   | ((with_reducible refine gate_store (t := 3) (p := 9) rfl ?_); refine ev_store rfl (ty := 3) (p := 9) rfl rfl (q := .pointer (some ⟨gx, 8, none⟩)) (v := .int .i64 0) rfl rfl (store_one E5.out.at1 8 (by show 8 < 11; omega) (.int .i64 0) rfl (T' := ({ d with a5 := 5, a8 := 0 } : Dep).c v) rfl 3 (by kernel_rfl)) ?_; intro s1 hF; have E6 := Aside0.mk (E5.out.put1 hF.1 hF.2); clear hF E5)
   | ((with_reducible refine gate_dst (N := 10) rfl ?_); refine ev_load rfl (N := 10) rfl rfl (q := .pointer (some ⟨gx, 0, none⟩)) (v := .agg (({ d with a5 := 5, a8 := 0 } : Dep).c v)) rfl (load38e E6.out.at1) ?_)
   | ((with_reducible refine gate_store (t := 38) (p := 2) rfl ?_); obtain ⟨old, ho2, h2⟩ := E6.out.at2; refine ev_store rfl (ty := 38) (p := 2) rfl rfl (q := .pointer (some ⟨gr, 0, none⟩)) (v := .agg (({ d with a5 := 5, a8 := 0 } : Dep).c v)) rfl rfl (store_eleven (tt := 38) (by kernel_rfl) h2 ho2 (Dep.elf _ V.out.one)) ?_; intro w9 hF; have AF := Aside0.mk hF.1; have BF := Aside0.mk (E6.out.done hF.2); clear hF ho2 h2))
  refine bodyPost_ret (results_ct rfl _ _ gr 38 (({ d with a5 := 5, a8 := 0 } : Dep).c v) (0, 0) _ rfl AF.out Tryd.underlying38 rfl (by kernel_rfl)) rfl ?_
  exact ⟨v, rfl, HDD.out.below BF.out, BF.out⟩
 ·
  have HDD := HD
  rw [show misB d = (d, false) from by simp [misB, c5]]
  have c5b : (d.a5 == 3) = false := beq_eq_false_iff_ne.mpr c5
  have c5n : (d.a5 != 3) = true := bne_iff_ne.mpr c5
  clear c5
  go_enter Tryd.func32, Tryd.ntmps32
  go_wp2_with (first
   | ((with_reducible refine gate_dst (N := 1) rfl ?_); refine box_event rfl (N := 1) rfl (cs := d.c v) (t := 38) ?hr ?_; (case hr => first | (go_simp; done) | (go_simp; rfl)); intro gx hg w1 h1 b1; have P1 := Aside0.mk (And.intro hg (And.intro h1 b1)); clear hg h1 b1)
   | ((with_reducible refine gate_dst (N := 2) rfl ?_); refine box_event rfl (N := 2) rfl (cs := zeroE) (t := 38) ?hr ?_; (case hr => first | (go_simp; done) | (go_simp; rfl)); intro gr hg w2 h1 b1; have E := Aside0.mk (Ed.start P1.out ⟨hg, h1, b1⟩ rfl); have V := Aside0.mk (HD.out.below E.out.b); clear HD; have hc5 : w2.cell? ⟨gx, 5, none⟩ = some (.int .i64 d.a5) := (cell_of_row w2 gx 5 _ 38 (0, 0) E.out.at1).trans rfl; have hc6 : w2.cell? ⟨gx, 6, none⟩ = some (.int .i64 d.a6) := (cell_of_row w2 gx 6 _ 38 (0, 0) E.out.at1).trans rfl; have hc7 : w2.cell? ⟨gx, 7, none⟩ = some (.int .i64 d.a7) := (cell_of_row w2 gx 7 _ 38 (0, 0) E.out.at1).trans rfl; have hc8 : w2.cell? ⟨gx, 8, none⟩ = some (.int .i64 d.a8) := (cell_of_row w2 gx 8 _ 38 (0, 0) E.out.at1).trans rfl; clear hg h1 b1 P1)
   | ((with_reducible refine gate_dst (N := 7) rfl ?_); refine ev_load rfl (N := 7) rfl rfl (q := .pointer (some ⟨gx, 0, none⟩)) (v := .agg ((d : Dep).c v)) rfl (load38e E.out.at1) ?_)
   | ((with_reducible refine gate_store (t := 38) (p := 2) rfl ?_); obtain ⟨old, ho2, h2⟩ := E.out.at2; refine ev_store rfl (ty := 38) (p := 2) rfl rfl (q := .pointer (some ⟨gr, 0, none⟩)) (v := .agg ((d : Dep).c v)) rfl rfl (store_eleven (tt := 38) (by kernel_rfl) h2 ho2 (Dep.elf _ V.out.one)) ?_; intro w9 hF; have AF := Aside0.mk hF.1; have BF := Aside0.mk (E.out.done hF.2); clear hF ho2 h2))
  refine bodyPost_ret (results_ct rfl _ _ gr 38 ((d : Dep).c v) (0, 0) _ rfl AF.out Tryd.underlying38 rfl (by kernel_rfl)) rfl ?_
  exact ⟨v, rfl, HDD.out.below BF.out, BF.out⟩
set_option maxHeartbeats 4000000 in
set_option maxRecDepth 100000 in
theorem rdec_e (d : Dep) (ver cov : Int) (g : Bool) (h : Rd (Kd.int .i64) w v d.s) :
  Calls Tryd.prog 35 #[.agg (d.c v), .int .i64 ver, .int .i64 cov, .bool g] w fun e w' => ∃ u : Value, e = .returned (.agg ((decB d ver cov g).c u)) ∧ Rd (Kd.int .i64) w' u (decB d ver cov g).s ∧ Below w.heap.size w w' := by
 have HD := Aside0.mk h
 clear h
 have hu38 := Tryd.underlying38
 by_cases c6 : ver = d.a6
 ·
  by_cases c1 : d.a5 = 1
  ·
   by_cases cg : g = true
   ·
    have HDD := HD
    rw [show decB d ver cov g = { d with a5 := 3, a8 := cov } from by simp [decB, c6, c1, cg]]
    subst cg
    have c6b : (ver == d.a6) = true := beq_iff_eq.mpr c6
    have c6n : (ver != d.a6) = false := bne_eq_false_iff_eq.mpr c6
    have c1b : (d.a5 == 1) = true := beq_iff_eq.mpr c1
    have c1n : (d.a5 != 1) = false := bne_eq_false_iff_eq.mpr c1
    clear c6 c1
    go_enter Tryd.func35, Tryd.ntmps35
    go_wp2_with (first
     | ((with_reducible refine gate_dst (N := 4) rfl ?_); refine box_event rfl (N := 4) rfl (cs := d.c v) (t := 38) ?hr ?_; (case hr => first | (go_simp; done) | (go_simp; rfl)); intro gx hg w1 h1 b1; have P1 := Aside0.mk (And.intro hg (And.intro h1 b1)); clear hg h1 b1)
     | ((with_reducible refine gate_dst (N := 8) rfl ?_); refine box_event rfl (N := 8) rfl (cs := zeroE) (t := 38) ?hr ?_; (case hr => first | (go_simp; done) | (go_simp; rfl)); intro gr hg w2 h1 b1; have E := Aside0.mk (Ed.start P1.out ⟨hg, h1, b1⟩ rfl); have V := Aside0.mk (HD.out.below E.out.b); clear HD; have hc5 : w2.cell? ⟨gx, 5, none⟩ = some (.int .i64 d.a5) := (cell_of_row w2 gx 5 _ 38 (0, 0) E.out.at1).trans rfl; have hc6 : w2.cell? ⟨gx, 6, none⟩ = some (.int .i64 d.a6) := (cell_of_row w2 gx 6 _ 38 (0, 0) E.out.at1).trans rfl; have hc7 : w2.cell? ⟨gx, 7, none⟩ = some (.int .i64 d.a7) := (cell_of_row w2 gx 7 _ 38 (0, 0) E.out.at1).trans rfl; have hc8 : w2.cell? ⟨gx, 8, none⟩ = some (.int .i64 d.a8) := (cell_of_row w2 gx 8 _ 38 (0, 0) E.out.at1).trans rfl; clear hg h1 b1 P1)
     | ((with_reducible refine gate_store (t := 3) (p := 20) rfl ?_); refine ev_store rfl (ty := 3) (p := 20) rfl rfl (q := .pointer (some ⟨gx, 5, none⟩)) (v := .int .i64 3) rfl rfl (store_one E.out.at1 5 (by show 5 < 11; omega) (.int .i64 3) rfl (T' := ({ d with a5 := 3 } : Dep).c v) rfl 3 (by kernel_rfl)) ?_; intro s0 hF; have E5 := Aside0.mk (E.out.put1 hF.1 hF.2); clear hF E hc5 hc6 hc7 hc8)
     | ((with_reducible refine gate_store (t := 3) (p := 21) rfl ?_); refine ev_store rfl (ty := 3) (p := 21) rfl rfl (q := .pointer (some ⟨gx, 8, none⟩)) (v := .int .i64 cov) rfl rfl (store_one E5.out.at1 8 (by show 8 < 11; omega) (.int .i64 cov) rfl (T' := ({ d with a5 := 3, a8 := cov } : Dep).c v) rfl 3 (by kernel_rfl)) ?_; intro s1 hF; have E6 := Aside0.mk (E5.out.put1 hF.1 hF.2); clear hF E5)
     | ((with_reducible refine gate_dst (N := 27) rfl ?_); refine ev_load rfl (N := 27) rfl rfl (q := .pointer (some ⟨gx, 0, none⟩)) (v := .agg (({ d with a5 := 3, a8 := cov } : Dep).c v)) rfl (load38e E6.out.at1) ?_)
     | ((with_reducible refine gate_store (t := 38) (p := 8) rfl ?_); obtain ⟨old, ho2, h2⟩ := E6.out.at2; refine ev_store rfl (ty := 38) (p := 8) rfl rfl (q := .pointer (some ⟨gr, 0, none⟩)) (v := .agg (({ d with a5 := 3, a8 := cov } : Dep).c v)) rfl rfl (store_eleven (tt := 38) (by kernel_rfl) h2 ho2 (Dep.elf _ V.out.one)) ?_; intro w9 hF; have AF := Aside0.mk hF.1; have BF := Aside0.mk (E6.out.done hF.2); clear hF ho2 h2))
    refine bodyPost_ret (results_cell_row rfl _ _ gr 38 (({ d with a5 := 3, a8 := cov } : Dep).c v) (0, 0) _ rfl AF.out Tryd.underlying38 rfl (by kernel_rfl)) rfl ?_
    exact ⟨v, rfl, HDD.out.below BF.out, BF.out⟩
   ·
    have HDD := HD
    rw [show decB d ver cov g = { d with a5 := 2 } from by simp [decB, c6, c1, cg]]
    obtain rfl : g = false := by simpa using cg
    have c6b : (ver == d.a6) = true := beq_iff_eq.mpr c6
    have c6n : (ver != d.a6) = false := bne_eq_false_iff_eq.mpr c6
    have c1b : (d.a5 == 1) = true := beq_iff_eq.mpr c1
    have c1n : (d.a5 != 1) = false := bne_eq_false_iff_eq.mpr c1
    clear c6 c1 cg
    go_enter Tryd.func35, Tryd.ntmps35
    go_wp2_with (first
     | ((with_reducible refine gate_dst (N := 4) rfl ?_); refine box_event rfl (N := 4) rfl (cs := d.c v) (t := 38) ?hr ?_; (case hr => first | (go_simp; done) | (go_simp; rfl)); intro gx hg w1 h1 b1; have P1 := Aside0.mk (And.intro hg (And.intro h1 b1)); clear hg h1 b1)
     | ((with_reducible refine gate_dst (N := 8) rfl ?_); refine box_event rfl (N := 8) rfl (cs := zeroE) (t := 38) ?hr ?_; (case hr => first | (go_simp; done) | (go_simp; rfl)); intro gr hg w2 h1 b1; have E := Aside0.mk (Ed.start P1.out ⟨hg, h1, b1⟩ rfl); have V := Aside0.mk (HD.out.below E.out.b); clear HD; have hc5 : w2.cell? ⟨gx, 5, none⟩ = some (.int .i64 d.a5) := (cell_of_row w2 gx 5 _ 38 (0, 0) E.out.at1).trans rfl; have hc6 : w2.cell? ⟨gx, 6, none⟩ = some (.int .i64 d.a6) := (cell_of_row w2 gx 6 _ 38 (0, 0) E.out.at1).trans rfl; have hc7 : w2.cell? ⟨gx, 7, none⟩ = some (.int .i64 d.a7) := (cell_of_row w2 gx 7 _ 38 (0, 0) E.out.at1).trans rfl; have hc8 : w2.cell? ⟨gx, 8, none⟩ = some (.int .i64 d.a8) := (cell_of_row w2 gx 8 _ 38 (0, 0) E.out.at1).trans rfl; clear hg h1 b1 P1)
     | ((with_reducible refine gate_store (t := 3) (p := 22) rfl ?_); refine ev_store rfl (ty := 3) (p := 22) rfl rfl (q := .pointer (some ⟨gx, 5, none⟩)) (v := .int .i64 2) rfl rfl (store_one E.out.at1 5 (by show 5 < 11; omega) (.int .i64 2) rfl (T' := ({ d with a5 := 2 } : Dep).c v) rfl 3 (by kernel_rfl)) ?_; intro s0 hF; have E5 := Aside0.mk (E.out.put1 hF.1 hF.2); clear hF E hc5 hc6 hc7 hc8)
     | ((with_reducible refine gate_dst (N := 27) rfl ?_); refine ev_load rfl (N := 27) rfl rfl (q := .pointer (some ⟨gx, 0, none⟩)) (v := .agg (({ d with a5 := 2 } : Dep).c v)) rfl (load38e E5.out.at1) ?_)
     | ((with_reducible refine gate_store (t := 38) (p := 8) rfl ?_); obtain ⟨old, ho2, h2⟩ := E5.out.at2; refine ev_store rfl (ty := 38) (p := 8) rfl rfl (q := .pointer (some ⟨gr, 0, none⟩)) (v := .agg (({ d with a5 := 2 } : Dep).c v)) rfl rfl (store_eleven (tt := 38) (by kernel_rfl) h2 ho2 (Dep.elf _ V.out.one)) ?_; intro w9 hF; have AF := Aside0.mk hF.1; have BF := Aside0.mk (E5.out.done hF.2); clear hF ho2 h2))
    refine bodyPost_ret (results_cell_row rfl _ _ gr 38 (({ d with a5 := 2 } : Dep).c v) (0, 0) _ rfl AF.out Tryd.underlying38 rfl (by kernel_rfl)) rfl ?_
    exact ⟨v, rfl, HDD.out.below BF.out, BF.out⟩
  ·
   by_cases c5 : d.a5 = 3
   ·
    have HDD := HD
    rw [show decB d ver cov g = { d with a8 := cov } from by simp [decB, c6, c5]]
    have c6b : (ver == d.a6) = true := beq_iff_eq.mpr c6
    have c6n : (ver != d.a6) = false := bne_eq_false_iff_eq.mpr c6
    have c1b : (d.a5 == 1) = false := beq_eq_false_iff_ne.mpr c1
    have c1n : (d.a5 != 1) = true := bne_iff_ne.mpr c1
    have c5b : (d.a5 == 3) = true := beq_iff_eq.mpr c5
    have c5n : (d.a5 != 3) = false := bne_eq_false_iff_eq.mpr c5
    clear c6 c1 c5
    go_enter Tryd.func35, Tryd.ntmps35
    go_wp2_with (first
     | ((with_reducible refine gate_dst (N := 4) rfl ?_); refine box_event rfl (N := 4) rfl (cs := d.c v) (t := 38) ?hr ?_; (case hr => first | (go_simp; done) | (go_simp; rfl)); intro gx hg w1 h1 b1; have P1 := Aside0.mk (And.intro hg (And.intro h1 b1)); clear hg h1 b1)
     | ((with_reducible refine gate_dst (N := 8) rfl ?_); refine box_event rfl (N := 8) rfl (cs := zeroE) (t := 38) ?hr ?_; (case hr => first | (go_simp; done) | (go_simp; rfl)); intro gr hg w2 h1 b1; have E := Aside0.mk (Ed.start P1.out ⟨hg, h1, b1⟩ rfl); have V := Aside0.mk (HD.out.below E.out.b); clear HD; have hc5 : w2.cell? ⟨gx, 5, none⟩ = some (.int .i64 d.a5) := (cell_of_row w2 gx 5 _ 38 (0, 0) E.out.at1).trans rfl; have hc6 : w2.cell? ⟨gx, 6, none⟩ = some (.int .i64 d.a6) := (cell_of_row w2 gx 6 _ 38 (0, 0) E.out.at1).trans rfl; have hc7 : w2.cell? ⟨gx, 7, none⟩ = some (.int .i64 d.a7) := (cell_of_row w2 gx 7 _ 38 (0, 0) E.out.at1).trans rfl; have hc8 : w2.cell? ⟨gx, 8, none⟩ = some (.int .i64 d.a8) := (cell_of_row w2 gx 8 _ 38 (0, 0) E.out.at1).trans rfl; clear hg h1 b1 P1)
     | ((with_reducible refine gate_store (t := 3) (p := 26) rfl ?_); refine ev_store rfl (ty := 3) (p := 26) rfl rfl (q := .pointer (some ⟨gx, 8, none⟩)) (v := .int .i64 cov) rfl rfl (store_one E.out.at1 8 (by show 8 < 11; omega) (.int .i64 cov) rfl (T' := ({ d with a8 := cov } : Dep).c v) rfl 3 (by kernel_rfl)) ?_; intro s0 hF; have E5 := Aside0.mk (E.out.put1 hF.1 hF.2); clear hF E hc5 hc6 hc7 hc8)
     | ((with_reducible refine gate_dst (N := 27) rfl ?_); refine ev_load rfl (N := 27) rfl rfl (q := .pointer (some ⟨gx, 0, none⟩)) (v := .agg (({ d with a8 := cov } : Dep).c v)) rfl (load38e E5.out.at1) ?_)
     | ((with_reducible refine gate_store (t := 38) (p := 8) rfl ?_); obtain ⟨old, ho2, h2⟩ := E5.out.at2; refine ev_store rfl (ty := 38) (p := 8) rfl rfl (q := .pointer (some ⟨gr, 0, none⟩)) (v := .agg (({ d with a8 := cov } : Dep).c v)) rfl rfl (store_eleven (tt := 38) (by kernel_rfl) h2 ho2 (Dep.elf _ V.out.one)) ?_; intro w9 hF; have AF := Aside0.mk hF.1; have BF := Aside0.mk (E5.out.done hF.2); clear hF ho2 h2))
    refine bodyPost_ret (results_cell_row rfl _ _ gr 38 (({ d with a8 := cov } : Dep).c v) (0, 0) _ rfl AF.out Tryd.underlying38 rfl (by kernel_rfl)) rfl ?_
    exact ⟨v, rfl, HDD.out.below BF.out, BF.out⟩
   ·
    have HDD := HD
    rw [show decB d ver cov g = d from by simp [decB, c6, c1, c5]]
    have c6b : (ver == d.a6) = true := beq_iff_eq.mpr c6
    have c6n : (ver != d.a6) = false := bne_eq_false_iff_eq.mpr c6
    have c1b : (d.a5 == 1) = false := beq_eq_false_iff_ne.mpr c1
    have c1n : (d.a5 != 1) = true := bne_iff_ne.mpr c1
    have c5b : (d.a5 == 3) = false := beq_eq_false_iff_ne.mpr c5
    have c5n : (d.a5 != 3) = true := bne_iff_ne.mpr c5
    clear c6 c1 c5
    go_enter Tryd.func35, Tryd.ntmps35
    go_wp2_with (first
     | ((with_reducible refine gate_dst (N := 4) rfl ?_); refine box_event rfl (N := 4) rfl (cs := d.c v) (t := 38) ?hr ?_; (case hr => first | (go_simp; done) | (go_simp; rfl)); intro gx hg w1 h1 b1; have P1 := Aside0.mk (And.intro hg (And.intro h1 b1)); clear hg h1 b1)
     | ((with_reducible refine gate_dst (N := 8) rfl ?_); refine box_event rfl (N := 8) rfl (cs := zeroE) (t := 38) ?hr ?_; (case hr => first | (go_simp; done) | (go_simp; rfl)); intro gr hg w2 h1 b1; have E := Aside0.mk (Ed.start P1.out ⟨hg, h1, b1⟩ rfl); have V := Aside0.mk (HD.out.below E.out.b); clear HD; have hc5 : w2.cell? ⟨gx, 5, none⟩ = some (.int .i64 d.a5) := (cell_of_row w2 gx 5 _ 38 (0, 0) E.out.at1).trans rfl; have hc6 : w2.cell? ⟨gx, 6, none⟩ = some (.int .i64 d.a6) := (cell_of_row w2 gx 6 _ 38 (0, 0) E.out.at1).trans rfl; have hc7 : w2.cell? ⟨gx, 7, none⟩ = some (.int .i64 d.a7) := (cell_of_row w2 gx 7 _ 38 (0, 0) E.out.at1).trans rfl; have hc8 : w2.cell? ⟨gx, 8, none⟩ = some (.int .i64 d.a8) := (cell_of_row w2 gx 8 _ 38 (0, 0) E.out.at1).trans rfl; clear hg h1 b1 P1)
     | ((with_reducible refine gate_dst (N := 27) rfl ?_); refine ev_load rfl (N := 27) rfl rfl (q := .pointer (some ⟨gx, 0, none⟩)) (v := .agg ((d : Dep).c v)) rfl (load38e E.out.at1) ?_)
     | ((with_reducible refine gate_store (t := 38) (p := 8) rfl ?_); obtain ⟨old, ho2, h2⟩ := E.out.at2; refine ev_store rfl (ty := 38) (p := 8) rfl rfl (q := .pointer (some ⟨gr, 0, none⟩)) (v := .agg ((d : Dep).c v)) rfl rfl (store_eleven (tt := 38) (by kernel_rfl) h2 ho2 (Dep.elf _ V.out.one)) ?_; intro w9 hF; have AF := Aside0.mk hF.1; have BF := Aside0.mk (E.out.done hF.2); clear hF ho2 h2))
    refine bodyPost_ret (results_cell_row rfl _ _ gr 38 ((d : Dep).c v) (0, 0) _ rfl AF.out Tryd.underlying38 rfl (by kernel_rfl)) rfl ?_
    exact ⟨v, rfl, HDD.out.below BF.out, BF.out⟩
 ·
  have HDD := HD
  rw [show decB d ver cov g = d from by simp [decB, c6]]
  have c6b : (ver == d.a6) = false := beq_eq_false_iff_ne.mpr c6
  have c6n : (ver != d.a6) = true := bne_iff_ne.mpr c6
  clear c6
  go_enter Tryd.func35, Tryd.ntmps35
  go_wp2_with (first
   | ((with_reducible refine gate_dst (N := 4) rfl ?_); refine box_event rfl (N := 4) rfl (cs := d.c v) (t := 38) ?hr ?_; (case hr => first | (go_simp; done) | (go_simp; rfl)); intro gx hg w1 h1 b1; have P1 := Aside0.mk (And.intro hg (And.intro h1 b1)); clear hg h1 b1)
   | ((with_reducible refine gate_dst (N := 8) rfl ?_); refine box_event rfl (N := 8) rfl (cs := zeroE) (t := 38) ?hr ?_; (case hr => first | (go_simp; done) | (go_simp; rfl)); intro gr hg w2 h1 b1; have E := Aside0.mk (Ed.start P1.out ⟨hg, h1, b1⟩ rfl); have V := Aside0.mk (HD.out.below E.out.b); clear HD; have hc5 : w2.cell? ⟨gx, 5, none⟩ = some (.int .i64 d.a5) := (cell_of_row w2 gx 5 _ 38 (0, 0) E.out.at1).trans rfl; have hc6 : w2.cell? ⟨gx, 6, none⟩ = some (.int .i64 d.a6) := (cell_of_row w2 gx 6 _ 38 (0, 0) E.out.at1).trans rfl; have hc7 : w2.cell? ⟨gx, 7, none⟩ = some (.int .i64 d.a7) := (cell_of_row w2 gx 7 _ 38 (0, 0) E.out.at1).trans rfl; have hc8 : w2.cell? ⟨gx, 8, none⟩ = some (.int .i64 d.a8) := (cell_of_row w2 gx 8 _ 38 (0, 0) E.out.at1).trans rfl; clear hg h1 b1 P1)
   | ((with_reducible refine gate_dst (N := 13) rfl ?_); refine ev_load rfl (N := 13) rfl rfl (q := .pointer (some ⟨gx, 0, none⟩)) (v := .agg ((d : Dep).c v)) rfl (load38e E.out.at1) ?_)
   | ((with_reducible refine gate_store (t := 38) (p := 8) rfl ?_); obtain ⟨old, ho2, h2⟩ := E.out.at2; refine ev_store rfl (ty := 38) (p := 8) rfl rfl (q := .pointer (some ⟨gr, 0, none⟩)) (v := .agg ((d : Dep).c v)) rfl rfl (store_eleven (tt := 38) (by kernel_rfl) h2 ho2 (Dep.elf _ V.out.one)) ?_; intro w9 hF; have AF := Aside0.mk hF.1; have BF := Aside0.mk (E.out.done hF.2); clear hF ho2 h2))
  refine bodyPost_ret (results_cell_row rfl _ _ gr 38 ((d : Dep).c v) (0, 0) _ rfl AF.out Tryd.underlying38 rfl (by kernel_rfl)) rfl ?_
  exact ⟨v, rfl, HDD.out.below BF.out, BF.out⟩
end


set_option maxHeartbeats 8000000 in
set_option maxRecDepth 100000 in
theorem sdep_w {w : World} {v u : Value} (d : Dep) (h : Rd (Kd.int .i64) w v d.s) (h' : Rd (Kd.int .i64) w u d.s) (hl : d.s.length ≤ 17592186043904) :
  Calls Tryd.prog 33 #[.agg (d.c v), .agg (d.c u)] w fun e w' => e = .returned (.bool true) ∧ Below w.heap.size w w' := by
 obtain ⟨A, c1, rfl, hc, hr⟩ := h
 obtain ⟨B, c2, rfl, hd, hq⟩ := h'
 obtain ⟨k, hk⟩ := (same_ints d.s hl).rounds
 have HR := Aside0.mk hr
 have HQ := Aside0.mk hq
 have HC := Aside0.mk hc
 have HD := Aside0.mk hd
 have HK := Aside0.mk hk
 clear hc hr hd hq hk hl
 have hu38 := Tryd.underlying38
 go_enter Tryd.func33, Tryd.ntmps33
 go_wp2_with (first
  | ((with_reducible refine gate_dst (N := 2) rfl ?_); refine box_event rfl (N := 2) rfl (cs := d.c (.slice A d.s.length c1)) (t := 38) ?hr ?_; (case hr => first | (go_simp; done) | (go_simp; rfl)); intro g1 hg w1 h1 b1; have P1 := Aside0.mk (And.intro h1 b1); clear hg h1 b1)
  | ((with_reducible refine gate_dst (N := 3) rfl ?_); refine box_event rfl (N := 3) rfl (cs := d.c (.slice B d.s.length c2)) (t := 38) ?hr ?_; (case hr => first | (go_simp; done) | (go_simp; rfl)); intro g2 hg w2 h1 b1; have Q1 := Aside0.mk (blk_below P1.out.1 b1); have BB := Aside0.mk (below_below P1.out.2 b1); have x0 : w2.cell? ⟨g1, 0, none⟩ = some (.int .i64 d.a0) := (cell_of_row w2 g1 0 _ 38 (0, 0) Q1.out).trans rfl; have y0 : w2.cell? ⟨g2, 0, none⟩ = some (.int .i64 d.a0) := (cell_of_row w2 g2 0 _ 38 (0, 0) h1).trans rfl; have x1 : w2.cell? ⟨g1, 1, none⟩ = some (.int .i64 d.a1) := (cell_of_row w2 g1 1 _ 38 (0, 0) Q1.out).trans rfl; have y1 : w2.cell? ⟨g2, 1, none⟩ = some (.int .i64 d.a1) := (cell_of_row w2 g2 1 _ 38 (0, 0) h1).trans rfl; have x2 : w2.cell? ⟨g1, 2, none⟩ = some (.int .i64 d.a2) := (cell_of_row w2 g1 2 _ 38 (0, 0) Q1.out).trans rfl; have y2 : w2.cell? ⟨g2, 2, none⟩ = some (.int .i64 d.a2) := (cell_of_row w2 g2 2 _ 38 (0, 0) h1).trans rfl; have x3 : w2.cell? ⟨g1, 3, none⟩ = some (.int .i64 d.a3) := (cell_of_row w2 g1 3 _ 38 (0, 0) Q1.out).trans rfl; have y3 : w2.cell? ⟨g2, 3, none⟩ = some (.int .i64 d.a3) := (cell_of_row w2 g2 3 _ 38 (0, 0) h1).trans rfl; have x4 : w2.cell? ⟨g1, 4, none⟩ = some (.int .i64 d.a4) := (cell_of_row w2 g1 4 _ 38 (0, 0) Q1.out).trans rfl; have y4 : w2.cell? ⟨g2, 4, none⟩ = some (.int .i64 d.a4) := (cell_of_row w2 g2 4 _ 38 (0, 0) h1).trans rfl; have x5 : w2.cell? ⟨g1, 5, none⟩ = some (.int .i64 d.a5) := (cell_of_row w2 g1 5 _ 38 (0, 0) Q1.out).trans rfl; have y5 : w2.cell? ⟨g2, 5, none⟩ = some (.int .i64 d.a5) := (cell_of_row w2 g2 5 _ 38 (0, 0) h1).trans rfl; have x6 : w2.cell? ⟨g1, 6, none⟩ = some (.int .i64 d.a6) := (cell_of_row w2 g1 6 _ 38 (0, 0) Q1.out).trans rfl; have y6 : w2.cell? ⟨g2, 6, none⟩ = some (.int .i64 d.a6) := (cell_of_row w2 g2 6 _ 38 (0, 0) h1).trans rfl; have x7 : w2.cell? ⟨g1, 7, none⟩ = some (.int .i64 d.a7) := (cell_of_row w2 g1 7 _ 38 (0, 0) Q1.out).trans rfl; have y7 : w2.cell? ⟨g2, 7, none⟩ = some (.int .i64 d.a7) := (cell_of_row w2 g2 7 _ 38 (0, 0) h1).trans rfl; have x8 : w2.cell? ⟨g1, 8, none⟩ = some (.int .i64 d.a8) := (cell_of_row w2 g1 8 _ 38 (0, 0) Q1.out).trans rfl; have y8 : w2.cell? ⟨g2, 8, none⟩ = some (.int .i64 d.a8) := (cell_of_row w2 g2 8 _ 38 (0, 0) h1).trans rfl; have x9 : w2.cell? ⟨g1, 9, none⟩ = some (.int .i64 d.a9) := (cell_of_row w2 g1 9 _ 38 (0, 0) Q1.out).trans rfl; have y9 : w2.cell? ⟨g2, 9, none⟩ = some (.int .i64 d.a9) := (cell_of_row w2 g2 9 _ 38 (0, 0) h1).trans rfl; have x10 : w2.cell? ⟨g1, 10, none⟩ = some (.slice A d.s.length c1) := (cell_of_row w2 g1 10 _ 38 (0, 0) Q1.out).trans rfl; have y10 : w2.cell? ⟨g2, 10, none⟩ = some (.slice B d.s.length c2) := (cell_of_row w2 g2 10 _ 38 (0, 0) h1).trans rfl; clear hg h1 b1 P1 Q1)
  | (refine wpList_wanted rfl (by kernel_rfl) ?_; intro K hK)
  | (go_at_call 22; refine (customsref33_SameInts.calls k A c1 d.s B c2 d.s true _ (Kd.C_below HR.out BB.out) HC.out (Kd.C_below HQ.out BB.out) HD.out HK.out).mono ?_; rintro e w3 ⟨rfl, hq⟩; have B3 := Aside0.mk (below_below BB.out (drawn0_below' hq)); clear hq BB))
 go_ret
 exact ⟨rfl, B3.out⟩


def transit_Adjust.f (a0_0 : Int) (a0_1 : Int) (a0_2 : Int) (a0_3 : Int) (a0_4 : Int) (a0_5 : Int) (a0_6 : Int) (a0_7 : Int) (a0_8 : Int) (a0_9 : Int) (l0_10 : List Int) (a1 : Int) : Option (Int × Int × Int × Int × Int × Int × Int × Int × Int × Int × List Int × Bool) := (transit_departed.f a0_0 a0_1 a0_2 a0_3 a0_4 a0_5 a0_6 a0_7 a0_8 a0_9 l0_10).bind fun bt1057 => (if bt1057.2.2.2.2.2.1 = 3 then (if bt1057.2.2.2.2.2.2.2.1 = a1 then (some (bt1057.1, bt1057.2.1, bt1057.2.2.1, bt1057.2.2.2.1, bt1057.2.2.2.2.1, bt1057.2.2.2.2.2.1, bt1057.2.2.2.2.2.2.1, bt1057.2.2.2.2.2.2.2.1, bt1057.2.2.2.2.2.2.2.2.1, bt1057.2.2.2.2.2.2.2.2.2.1, bt1057.2.2.2.2.2.2.2.2.2.2, false)) else (some (bt1057.1, bt1057.2.1, bt1057.2.2.1, bt1057.2.2.2.1, bt1057.2.2.2.2.1, bt1057.2.2.2.2.2.1, wrap64 (bt1057.2.2.2.2.2.2.1 + 1), a1, mn bt1057.2.2.2.2.2.2.2.2.1 a1, bt1057.2.2.2.2.2.2.2.2.2.1, bt1057.2.2.2.2.2.2.2.2.2.2, true))) else (some (bt1057.1, bt1057.2.1, bt1057.2.2.1, bt1057.2.2.2.1, bt1057.2.2.2.2.1, bt1057.2.2.2.2.2.1, bt1057.2.2.2.2.2.2.1, bt1057.2.2.2.2.2.2.2.1, bt1057.2.2.2.2.2.2.2.2.1, bt1057.2.2.2.2.2.2.2.2.2.1, bt1057.2.2.2.2.2.2.2.2.2.2, false)))
set_option maxHeartbeats 8000000 in
set_option maxRecDepth 100000 in
theorem transit_Adjust.calls (a0_0 : Int) (a0_1 : Int) (a0_2 : Int) (a0_3 : Int) (a0_4 : Int) (a0_5 : Int) (a0_6 : Int) (a0_7 : Int) (a0_8 : Int) (a0_9 : Int) (A0_10 : Option Addr) (c0_10 : Nat) (l0_10 : List Int) (a1 : Int) (r1 : Int) (r2 : Int) (r3 : Int) (r4 : Int) (r5 : Int) (r6 : Int) (r7 : Int) (r8 : Int) (r9 : Int) (r10 : Int) (r11 : List Int) (r12 : Bool) (w : World) (hr0_10 : Kd.C (Kd.int .i64) w A0_10 l0_10.length l0_10) (hc0_10 : l0_10.length ≤ c0_10) (h : transit_Adjust.f a0_0 a0_1 a0_2 a0_3 a0_4 a0_5 a0_6 a0_7 a0_8 a0_9 l0_10 a1 = some (r1, r2, r3, r4, r5, r6, r7, r8, r9, r10, r11, r12)) :
  Calls Tryd.prog 27 #[.agg #[.int .i64 a0_0, .int .i64 a0_1, .int .i64 a0_2, .int .i64 a0_3, .int .i64 a0_4, .int .i64 a0_5, .int .i64 a0_6, .int .i64 a0_7, .int .i64 a0_8, .int .i64 a0_9, .slice A0_10 l0_10.length c0_10], .int .i64 a1] w fun e w' => ∃ v10_ : Value, e = .returned (.tuple #[.agg #[.int .i64 r1, .int .i64 r2, .int .i64 r3, .int .i64 r4, .int .i64 r5, .int .i64 r6, .int .i64 r7, .int .i64 r8, .int .i64 r9, .int .i64 r10, v10_], .bool r12]) ∧ Kd.R (Kd.int .i64) 3 w' w.heap.size (fun _ => True) v10_ r11 ∧ Below w.heap.size w w' := by
 have HR := Aside0.mk hr0_10
 have HC := Aside0.mk hc0_10
 clear hr0_10 hc0_10
 have hu38 := Tryd.underlying38
 unfold transit_Adjust.f at h
 obtain ⟨⟨d0, d1, d2, d3, d4, d5, d6, d7, d8, d9, ds⟩, A0, H⟩ := Option.bind_eq_some_iff.mp h
 have A3 := Aside0.mk A0
 clear h A0
 replace H := (show (if d5 = 3 then (if d7 = a1 then _ else _) else _) = _ from H)
 by_cases c : d5 = 3
 ·
  rw [if_pos c] at H
  by_cases c2 : d7 = a1
  ·
   rw [if_pos c2] at H
   simp only [Option.some.injEq, Prod.mk.injEq] at H
   obtain ⟨rfl, rfl, rfl, rfl, rfl, rfl, rfl, rfl, rfl, rfl, rfl, rfl⟩ := H
   have c0 : (d5 != 3) = false := bne_eq_false_iff_eq.mpr c
   have c1 : (d7 == a1) = true := beq_iff_eq.mpr c2
   clear c c2
   go_enter Tryd.func27, Tryd.ntmps27
   go_wp2_with (first
    | ((with_reducible refine gate_dst (N := 2) rfl ?_); refine box_event rfl (N := 2) rfl (cs := #[.int .i64 a0_0, .int .i64 a0_1, .int .i64 a0_2, .int .i64 a0_3, .int .i64 a0_4, .int .i64 a0_5, .int .i64 a0_6, .int .i64 a0_7, .int .i64 a0_8, .int .i64 a0_9, .slice A0_10 l0_10.length c0_10]) (t := 38) ?hr ?_; (case hr => first | (go_simp; done) | (go_simp; rfl)); intro g hg w1 h1 b1; have G1 := Aside0.mk (And.intro hg (And.intro h1 b1)); clear hg h1 b1)
    | ((with_reducible refine gate_dst (N := 4) rfl ?_); refine box_event rfl (N := 4) rfl (cs := #[.int .i64 0, .int .i64 0, .int .i64 0, .int .i64 0, .int .i64 0, .int .i64 0, .int .i64 0, .int .i64 0, .int .i64 0, .int .i64 0, .slice none 0 0]) (t := 38) ?hr ?_; (case hr => first | (go_simp; done) | (go_simp; rfl)); intro gr hg w2 h1 b1; have L := Aside0.mk (Lo.start G1.out.1 G1.out.2.1 G1.out.2.2 hg h1 rfl b1 (fun _ => False)); clear hg h1 b1 G1)
    | ((with_reducible refine gate_dst (N := 6) rfl ?_); refine ev_load rfl (N := 6) rfl rfl (q := .pointer (some ⟨g, 0, none⟩)) (v := .agg #[.int .i64 a0_0, .int .i64 a0_1, .int .i64 a0_2, .int .i64 a0_3, .int .i64 a0_4, .int .i64 a0_5, .int .i64 a0_6, .int .i64 a0_7, .int .i64 a0_8, .int .i64 a0_9, .slice A0_10 l0_10.length c0_10]) rfl (load_eleven Tryd.underlying38 rfl (by kernel_rfl) L.out.at1 rfl) ?_)
    | (go_at_call 45; refine (transit_departed.calls a0_0 a0_1 a0_2 a0_3 a0_4 a0_5 a0_6 a0_7 a0_8 a0_9 _ _ l0_10 d0 d1 d2 d3 d4 d5 d6 d7 d8 d9 ds _ (Kd.C_below HR.out (L.out.mv0.below (Nat.le_refl _) (fun _ hk => hk.elim))) HC.out A3.out).mono ?_; rintro e w3 ⟨v, rfl, ho, hb⟩; have O3 := Aside0.mk (Kd.R_lower ho L.out.kept.1); have L3 := Aside0.mk (L.out.below hb); clear ho hb L)
    | ((with_reducible refine gate_store (t := 38) (p := 2) rfl ?_); refine ev_store rfl (ty := 38) (p := 2) rfl rfl (q := .pointer (some ⟨g, 0, none⟩)) (v := .agg #[.int .i64 d0, .int .i64 d1, .int .i64 d2, .int .i64 d3, .int .i64 d4, .int .i64 d5, .int .i64 d6, .int .i64 d7, .int .i64 d8, .int .i64 d9, v]) rfl rfl (store_eleven (by kernel_rfl) L3.out.at1 rfl (dep_elf _ _ _ _ _ _ _ _ _ _ (rone O3.out))) ?_; intro w4 hF; have L4 := Aside0.mk (L3.out.same hF.1 rfl hF.2); have O4 := Aside0.mk (R_same O3.out L3.out.at1 (by decide) hF.2); have hc5 : w4.cell? ⟨g, 5, none⟩ = some (.int .i64 d5) := (cell_of_row w4 g 5 _ 38 (0, 0) L4.out.at1).trans rfl; have hc7 : w4.cell? ⟨g, 7, none⟩ = some (.int .i64 d7) := (cell_of_row w4 g 7 _ 38 (0, 0) L4.out.at1).trans rfl; have hc6 : w4.cell? ⟨g, 6, none⟩ = some (.int .i64 d6) := (cell_of_row w4 g 6 _ 38 (0, 0) L4.out.at1).trans rfl; have hc8 : w4.cell? ⟨g, 8, none⟩ = some (.int .i64 d8) := (cell_of_row w4 g 8 _ 38 (0, 0) L4.out.at1).trans rfl; clear hF L3 O3)
    | ((with_reducible refine gate_dst (N := 17) rfl ?_); refine ev_load rfl (N := 17) rfl rfl (q := .pointer (some ⟨g, 0, none⟩)) (v := .agg #[.int .i64 d0, .int .i64 d1, .int .i64 d2, .int .i64 d3, .int .i64 d4, .int .i64 d5, .int .i64 d6, .int .i64 d7, .int .i64 d8, .int .i64 d9, v]) rfl (load_eleven Tryd.underlying38 rfl (by kernel_rfl) L4.out.at1 rfl) ?_)
    | ((with_reducible refine gate_store (t := 38) (p := 4) rfl ?_); obtain ⟨old, ho2, h2⟩ := L4.out.at2; refine ev_store rfl (ty := 38) (p := 4) rfl rfl (q := .pointer (some ⟨gr, 0, none⟩)) (v := .agg #[.int .i64 d0, .int .i64 d1, .int .i64 d2, .int .i64 d3, .int .i64 d4, .int .i64 d5, .int .i64 d6, .int .i64 d7, .int .i64 d8, .int .i64 d9, v]) rfl rfl (store_eleven (by kernel_rfl) h2 ho2 (dep_elf _ _ _ _ _ _ _ _ _ _ (rone O4.out))) ?_; intro w9 hF; have A7 := Aside0.mk hF.1; have M7 := Aside0.mk (L4.out.done hF.2); have O7 := Aside0.mk (R_same O4.out h2 (by decide) hF.2); clear hF ho2 h2))
   refine bodyPost_ret (results_ct rfl _ _ gr 38 #[.int .i64 d0, .int .i64 d1, .int .i64 d2, .int .i64 d3, .int .i64 d4, .int .i64 d5, .int .i64 d6, .int .i64 d7, .int .i64 d8, .int .i64 d9, v] (0, 0) _ rfl A7.out Tryd.underlying38 rfl (by kernel_rfl)) rfl ?_
   exact ⟨v, rfl, O7.out, M7.out.below (Nat.le_refl _) (fun _ hk => hk.elim)⟩
  ·
   rw [if_neg c2] at H
   simp only [Option.some.injEq, Prod.mk.injEq] at H
   obtain ⟨rfl, rfl, rfl, rfl, rfl, rfl, rfl, rfl, rfl, rfl, rfl, rfl⟩ := H
   have c0 : (d5 != 3) = false := bne_eq_false_iff_eq.mpr c
   have c1 : (d7 == a1) = false := beq_eq_false_iff_ne.mpr c2
   clear c c2
   go_enter Tryd.func27, Tryd.ntmps27
   go_wp2_with (first
    | ((with_reducible refine gate_dst (N := 2) rfl ?_); refine box_event rfl (N := 2) rfl (cs := #[.int .i64 a0_0, .int .i64 a0_1, .int .i64 a0_2, .int .i64 a0_3, .int .i64 a0_4, .int .i64 a0_5, .int .i64 a0_6, .int .i64 a0_7, .int .i64 a0_8, .int .i64 a0_9, .slice A0_10 l0_10.length c0_10]) (t := 38) ?hr ?_; (case hr => first | (go_simp; done) | (go_simp; rfl)); intro g hg w1 h1 b1; have G1 := Aside0.mk (And.intro hg (And.intro h1 b1)); clear hg h1 b1)
    | ((with_reducible refine gate_dst (N := 4) rfl ?_); refine box_event rfl (N := 4) rfl (cs := #[.int .i64 0, .int .i64 0, .int .i64 0, .int .i64 0, .int .i64 0, .int .i64 0, .int .i64 0, .int .i64 0, .int .i64 0, .int .i64 0, .slice none 0 0]) (t := 38) ?hr ?_; (case hr => first | (go_simp; done) | (go_simp; rfl)); intro gr hg w2 h1 b1; have L := Aside0.mk (Lo.start G1.out.1 G1.out.2.1 G1.out.2.2 hg h1 rfl b1 (fun _ => False)); clear hg h1 b1 G1)
    | ((with_reducible refine gate_dst (N := 6) rfl ?_); refine ev_load rfl (N := 6) rfl rfl (q := .pointer (some ⟨g, 0, none⟩)) (v := .agg #[.int .i64 a0_0, .int .i64 a0_1, .int .i64 a0_2, .int .i64 a0_3, .int .i64 a0_4, .int .i64 a0_5, .int .i64 a0_6, .int .i64 a0_7, .int .i64 a0_8, .int .i64 a0_9, .slice A0_10 l0_10.length c0_10]) rfl (load_eleven Tryd.underlying38 rfl (by kernel_rfl) L.out.at1 rfl) ?_)
    | (go_at_call 45; refine (transit_departed.calls a0_0 a0_1 a0_2 a0_3 a0_4 a0_5 a0_6 a0_7 a0_8 a0_9 _ _ l0_10 d0 d1 d2 d3 d4 d5 d6 d7 d8 d9 ds _ (Kd.C_below HR.out (L.out.mv0.below (Nat.le_refl _) (fun _ hk => hk.elim))) HC.out A3.out).mono ?_; rintro e w3 ⟨v, rfl, ho, hb⟩; have O3 := Aside0.mk (Kd.R_lower ho L.out.kept.1); have L3 := Aside0.mk (L.out.below hb); clear ho hb L)
    | ((with_reducible refine gate_store (t := 38) (p := 2) rfl ?_); refine ev_store rfl (ty := 38) (p := 2) rfl rfl (q := .pointer (some ⟨g, 0, none⟩)) (v := .agg #[.int .i64 d0, .int .i64 d1, .int .i64 d2, .int .i64 d3, .int .i64 d4, .int .i64 d5, .int .i64 d6, .int .i64 d7, .int .i64 d8, .int .i64 d9, v]) rfl rfl (store_eleven (by kernel_rfl) L3.out.at1 rfl (dep_elf _ _ _ _ _ _ _ _ _ _ (rone O3.out))) ?_; intro w4 hF; have L4 := Aside0.mk (L3.out.same hF.1 rfl hF.2); have O4 := Aside0.mk (R_same O3.out L3.out.at1 (by decide) hF.2); have hc5 : w4.cell? ⟨g, 5, none⟩ = some (.int .i64 d5) := (cell_of_row w4 g 5 _ 38 (0, 0) L4.out.at1).trans rfl; have hc7 : w4.cell? ⟨g, 7, none⟩ = some (.int .i64 d7) := (cell_of_row w4 g 7 _ 38 (0, 0) L4.out.at1).trans rfl; have hc6 : w4.cell? ⟨g, 6, none⟩ = some (.int .i64 d6) := (cell_of_row w4 g 6 _ 38 (0, 0) L4.out.at1).trans rfl; have hc8 : w4.cell? ⟨g, 8, none⟩ = some (.int .i64 d8) := (cell_of_row w4 g 8 _ 38 (0, 0) L4.out.at1).trans rfl; clear hF L3 O3)
    | ((with_reducible refine gate_store (t := 3) (p := 26) rfl ?_); refine ev_store rfl (ty := 3) (p := 26) rfl rfl (q := .pointer (some ⟨g, 6, none⟩)) (v := .int .i64 (wrap64 (d6 + 1))) rfl rfl (store_one L4.out.at1 6 (by show 6 < 11; omega) (.int .i64 (wrap64 (d6 + 1))) rfl rfl 3 (by kernel_rfl)) ?_; intro w5 hF; have L5 := Aside0.mk (L4.out.same hF.1 rfl hF.2); have O5 := Aside0.mk (R_same O4.out L4.out.at1 (by decide) hF.2); clear hF L4 O4)
    | ((with_reducible refine gate_store (t := 3) (p := 27) rfl ?_); refine ev_store rfl (ty := 3) (p := 27) rfl rfl (q := .pointer (some ⟨g, 7, none⟩)) (v := .int .i64 a1) rfl rfl (store_one L5.out.at1 7 (by show 7 < 11; omega) (.int .i64 a1) rfl rfl 3 (by kernel_rfl)) ?_; intro w6 hF; have L6 := Aside0.mk (L5.out.same hF.1 rfl hF.2); have O6 := Aside0.mk (R_same O5.out L5.out.at1 (by decide) hF.2); clear hF L5 O5)
    | ((with_reducible refine gate_store (t := 3) (p := 28) rfl ?_); refine ev_store rfl (ty := 3) (p := 28) rfl rfl (q := .pointer (some ⟨g, 8, none⟩)) (v := .int .i64 (mn d8 a1)) rfl rfl (store_one L6.out.at1 8 (by show 8 < 11; omega) (.int .i64 (mn d8 a1)) rfl rfl 3 (by kernel_rfl)) ?_; intro w7 hF; have L7 := Aside0.mk (L6.out.same hF.1 rfl hF.2); have O7 := Aside0.mk (R_same O6.out L6.out.at1 (by decide) hF.2); clear hF L6 O6)
    | ((with_reducible refine gate_dst (N := 29) rfl ?_); refine ev_load rfl (N := 29) rfl rfl (q := .pointer (some ⟨g, 0, none⟩)) (v := .agg #[.int .i64 d0, .int .i64 d1, .int .i64 d2, .int .i64 d3, .int .i64 d4, .int .i64 d5, .int .i64 (wrap64 (d6 + 1)), .int .i64 a1, .int .i64 (mn d8 a1), .int .i64 d9, v]) rfl (load_eleven Tryd.underlying38 rfl (by kernel_rfl) L7.out.at1 rfl) ?_)
    | ((with_reducible refine gate_store (t := 38) (p := 4) rfl ?_); obtain ⟨old, ho2, h2⟩ := L7.out.at2; refine ev_store rfl (ty := 38) (p := 4) rfl rfl (q := .pointer (some ⟨gr, 0, none⟩)) (v := .agg #[.int .i64 d0, .int .i64 d1, .int .i64 d2, .int .i64 d3, .int .i64 d4, .int .i64 d5, .int .i64 (wrap64 (d6 + 1)), .int .i64 a1, .int .i64 (mn d8 a1), .int .i64 d9, v]) rfl rfl (store_eleven (by kernel_rfl) h2 ho2 (dep_elf _ _ _ _ _ _ _ _ _ _ (rone O7.out))) ?_; intro w9 hF; have A7 := Aside0.mk hF.1; have M7 := Aside0.mk (L7.out.done hF.2); have O9 := Aside0.mk (R_same O7.out h2 (by decide) hF.2); clear hF ho2 h2))
   all_goals (refine bodyPost_ret (results_ct rfl _ _ gr 38 #[.int .i64 d0, .int .i64 d1, .int .i64 d2, .int .i64 d3, .int .i64 d4, .int .i64 d5, .int .i64 (wrap64 (d6 + 1)), .int .i64 a1, .int .i64 (mn d8 a1), .int .i64 d9, v] (0, 0) _ rfl A7.out Tryd.underlying38 rfl (by kernel_rfl)) rfl ?_)
   all_goals (exact ⟨v, rfl, O9.out, M7.out.below (Nat.le_refl _) (fun _ hk => hk.elim)⟩)
 ·
  rw [if_neg c] at H
  simp only [Option.some.injEq, Prod.mk.injEq] at H
  obtain ⟨rfl, rfl, rfl, rfl, rfl, rfl, rfl, rfl, rfl, rfl, rfl, rfl⟩ := H
  have c0 : (d5 != 3) = true := bne_iff_ne.mpr c
  clear c
  go_enter Tryd.func27, Tryd.ntmps27
  go_wp2_with (first
   | ((with_reducible refine gate_dst (N := 2) rfl ?_); refine box_event rfl (N := 2) rfl (cs := #[.int .i64 a0_0, .int .i64 a0_1, .int .i64 a0_2, .int .i64 a0_3, .int .i64 a0_4, .int .i64 a0_5, .int .i64 a0_6, .int .i64 a0_7, .int .i64 a0_8, .int .i64 a0_9, .slice A0_10 l0_10.length c0_10]) (t := 38) ?hr ?_; (case hr => first | (go_simp; done) | (go_simp; rfl)); intro g hg w1 h1 b1; have G1 := Aside0.mk (And.intro hg (And.intro h1 b1)); clear hg h1 b1)
   | ((with_reducible refine gate_dst (N := 4) rfl ?_); refine box_event rfl (N := 4) rfl (cs := #[.int .i64 0, .int .i64 0, .int .i64 0, .int .i64 0, .int .i64 0, .int .i64 0, .int .i64 0, .int .i64 0, .int .i64 0, .int .i64 0, .slice none 0 0]) (t := 38) ?hr ?_; (case hr => first | (go_simp; done) | (go_simp; rfl)); intro gr hg w2 h1 b1; have L := Aside0.mk (Lo.start G1.out.1 G1.out.2.1 G1.out.2.2 hg h1 rfl b1 (fun _ => False)); clear hg h1 b1 G1)
   | ((with_reducible refine gate_dst (N := 6) rfl ?_); refine ev_load rfl (N := 6) rfl rfl (q := .pointer (some ⟨g, 0, none⟩)) (v := .agg #[.int .i64 a0_0, .int .i64 a0_1, .int .i64 a0_2, .int .i64 a0_3, .int .i64 a0_4, .int .i64 a0_5, .int .i64 a0_6, .int .i64 a0_7, .int .i64 a0_8, .int .i64 a0_9, .slice A0_10 l0_10.length c0_10]) rfl (load_eleven Tryd.underlying38 rfl (by kernel_rfl) L.out.at1 rfl) ?_)
   | (go_at_call 45; refine (transit_departed.calls a0_0 a0_1 a0_2 a0_3 a0_4 a0_5 a0_6 a0_7 a0_8 a0_9 _ _ l0_10 d0 d1 d2 d3 d4 d5 d6 d7 d8 d9 ds _ (Kd.C_below HR.out (L.out.mv0.below (Nat.le_refl _) (fun _ hk => hk.elim))) HC.out A3.out).mono ?_; rintro e w3 ⟨v, rfl, ho, hb⟩; have O3 := Aside0.mk (Kd.R_lower ho L.out.kept.1); have L3 := Aside0.mk (L.out.below hb); clear ho hb L)
   | ((with_reducible refine gate_store (t := 38) (p := 2) rfl ?_); refine ev_store rfl (ty := 38) (p := 2) rfl rfl (q := .pointer (some ⟨g, 0, none⟩)) (v := .agg #[.int .i64 d0, .int .i64 d1, .int .i64 d2, .int .i64 d3, .int .i64 d4, .int .i64 d5, .int .i64 d6, .int .i64 d7, .int .i64 d8, .int .i64 d9, v]) rfl rfl (store_eleven (by kernel_rfl) L3.out.at1 rfl (dep_elf _ _ _ _ _ _ _ _ _ _ (rone O3.out))) ?_; intro w4 hF; have L4 := Aside0.mk (L3.out.same hF.1 rfl hF.2); have O4 := Aside0.mk (R_same O3.out L3.out.at1 (by decide) hF.2); have hc5 : w4.cell? ⟨g, 5, none⟩ = some (.int .i64 d5) := (cell_of_row w4 g 5 _ 38 (0, 0) L4.out.at1).trans rfl; have hc7 : w4.cell? ⟨g, 7, none⟩ = some (.int .i64 d7) := (cell_of_row w4 g 7 _ 38 (0, 0) L4.out.at1).trans rfl; have hc6 : w4.cell? ⟨g, 6, none⟩ = some (.int .i64 d6) := (cell_of_row w4 g 6 _ 38 (0, 0) L4.out.at1).trans rfl; have hc8 : w4.cell? ⟨g, 8, none⟩ = some (.int .i64 d8) := (cell_of_row w4 g 8 _ 38 (0, 0) L4.out.at1).trans rfl; clear hF L3 O3)
   | ((with_reducible refine gate_dst (N := 17) rfl ?_); refine ev_load rfl (N := 17) rfl rfl (q := .pointer (some ⟨g, 0, none⟩)) (v := .agg #[.int .i64 d0, .int .i64 d1, .int .i64 d2, .int .i64 d3, .int .i64 d4, .int .i64 d5, .int .i64 d6, .int .i64 d7, .int .i64 d8, .int .i64 d9, v]) rfl (load_eleven Tryd.underlying38 rfl (by kernel_rfl) L4.out.at1 rfl) ?_)
   | ((with_reducible refine gate_store (t := 38) (p := 4) rfl ?_); obtain ⟨old, ho2, h2⟩ := L4.out.at2; refine ev_store rfl (ty := 38) (p := 4) rfl rfl (q := .pointer (some ⟨gr, 0, none⟩)) (v := .agg #[.int .i64 d0, .int .i64 d1, .int .i64 d2, .int .i64 d3, .int .i64 d4, .int .i64 d5, .int .i64 d6, .int .i64 d7, .int .i64 d8, .int .i64 d9, v]) rfl rfl (store_eleven (by kernel_rfl) h2 ho2 (dep_elf _ _ _ _ _ _ _ _ _ _ (rone O4.out))) ?_; intro w9 hF; have A7 := Aside0.mk hF.1; have M7 := Aside0.mk (L4.out.done hF.2); have O7 := Aside0.mk (R_same O4.out h2 (by decide) hF.2); clear hF ho2 h2))
  refine bodyPost_ret (results_ct rfl _ _ gr 38 #[.int .i64 d0, .int .i64 d1, .int .i64 d2, .int .i64 d3, .int .i64 d4, .int .i64 d5, .int .i64 d6, .int .i64 d7, .int .i64 d8, .int .i64 d9, v] (0, 0) _ rfl A7.out Tryd.underlying38 rfl (by kernel_rfl)) rfl ?_
  exact ⟨v, rfl, O7.out, M7.out.below (Nat.le_refl _) (fun _ hk => hk.elim)⟩


def procedure_term.f (a0 : Int) : Option (Int × Int × Int × Bool) := if a0 = 1 then (some (0, 90, 0, true)) else (if a0 = 2 then (some (0, 8, 0, true)) else (if a0 = 4 then (some (6, 0, 0, true)) else (if a0 = 5 then (some (24, 0, 0, true)) else (if a0 = 7 then (some (12, 0, 0, true)) else (some (0, 0, 0, false))))))
set_option maxHeartbeats 8000000 in
set_option maxRecDepth 100000 in
theorem procedure_term.calls (a0 : Int) (r1 : Int) (r2 : Int) (r3 : Int) (r4 : Bool) (w : World) (h : procedure_term.f a0 = some (r1, r2, r3, r4)) :
  Calls Tryd.prog 70 #[.int .i64 a0] w fun e w' => e = .returned (.tuple #[.agg #[.int .i64 r1, .int .i64 r2, .int .i64 r3], .bool r4]) ∧ Below w.heap.size w w' := by
 have hu95 := Tryd.underlying95
 have HB := Aside0.mk (Below.refl w.heap.size w)
 have H : (if a0 = 1 then (some (0, 90, 0, true)) else (if a0 = 2 then (some (0, 8, 0, true)) else (if a0 = 4 then (some (6, 0, 0, true)) else (if a0 = 5 then (some (24, 0, 0, true)) else (if a0 = 7 then (some (12, 0, 0, true)) else (some (0, 0, 0, false))))))) = some (r1, r2, r3, r4) := h
 clear h
 by_cases c2 : a0 = 1
 ·
  rw [if_pos c2] at H
  have c2b0 : (a0 == 1) = true := beq_iff_eq.mpr c2
  have c2b1 : (a0 != 1) = false := bne_eq_false_iff_eq.mpr c2
  clear c2
  simp only [Option.some.injEq, Prod.mk.injEq] at H
  obtain ⟨rfl, rfl, rfl, rfl⟩ := H
  go_enter Tryd.func70, Tryd.ntmps70
  go_wp2_with (first | ((with_reducible refine gate_dst (N := 2) rfl ?_); refine box_event ?hg (N := 2) ?hd (cs := #[.int .i64 0, .int .i64 0, .int .i64 0]) (t := 95) ?hr ?_; (case hd => rfl); (case hg => rfl); (case hr => first | (go_simp; done) | (go_simp; rfl)); intro gb1022 hg w3 hbox hb; have n0_ := Aside0.mk (below_step (by repeat (first | (with_reducible first | exact HB.out | apply below_alloc | apply pw_below_drewN | apply below_drew1) | exact HB.out)) hb); have n1_ := Aside0.mk (hbox); have n2_ := Aside0.mk ((by rw [hg]; exact (below_size (by repeat (first | (with_reducible first | exact HB.out | apply below_alloc | apply pw_below_drewN | apply below_drew1) | exact HB.out))) : w.heap.size ≤ gb1022)); have n3_ := Aside0.mk ((by rw [hg]; exact (below_size (by repeat (first | (with_reducible first | exact HB.out | apply below_alloc | apply pw_below_drewN | apply below_drew1) | exact HB.out))) : w.heap.size ≤ gb1022)); clear HB; have HB := n0_; have BK1022 := n1_; have GW1022 := n2_; have GE1022 := n3_; clear n0_ n1_ n2_ n3_; clear hb hbox hg; have hcz4_0 : w3.cell? ⟨gb1022, 0, none⟩ = some (.int .i64 0) := (blk_cell BK1022.out 0).trans rfl; have hcz4_1 : w3.cell? ⟨gb1022, 1, none⟩ = some (.int .i64 0) := (blk_cell BK1022.out 1).trans rfl; have hcz4_2 : w3.cell? ⟨gb1022, 2, none⟩ = some (.int .i64 0) := (blk_cell BK1022.out 2).trans rfl; have hfz4_0 := blk_frozen BK1022.out 0; have hfz4_1 := blk_frozen BK1022.out 1; have hfz4_2 := blk_frozen BK1022.out 2; (try (have hpz4_1 : ∀ v0_ v1_ : Value, ((w3.setCell ⟨gb1022, 0, none⟩ v0_).setCell ⟨gb1022, 1, none⟩ v1_).cell? ⟨gb1022, 1, none⟩ = some v1_ := by (intros; go_simp))); (try (have hpz4_2 : ∀ v0_ v1_ v2_ : Value, (((w3.setCell ⟨gb1022, 0, none⟩ v0_).setCell ⟨gb1022, 1, none⟩ v1_).setCell ⟨gb1022, 2, none⟩ v2_).cell? ⟨gb1022, 2, none⟩ = some v2_ := by (intros; go_simp)))))
  refine bodyPost_ret (results_ct rfl _ _ gb1022 95 #[.int .i64 0, .int .i64 90, .int .i64 0] (0, 0) _ rfl (by (with_reducible repeat (first | refine blk_drewN ?_ _ | refine blk_drew ?_ | refine blk_alloc ?_ _)); refine blk_put (cs := #[.int .i64 0, .int .i64 90, .int .i64 0]) ?_ 2 _ rfl; (with_reducible repeat (first | refine blk_drewN ?_ _ | refine blk_drew ?_ | refine blk_alloc ?_ _)); refine blk_put (cs := #[.int .i64 0, .int .i64 0, .int .i64 0]) ?_ 1 _ rfl; (with_reducible repeat (first | refine blk_drewN ?_ _ | refine blk_drew ?_ | refine blk_alloc ?_ _)); refine blk_put (cs := #[.int .i64 0, .int .i64 0, .int .i64 0]) ?_ 0 _ rfl; (with_reducible repeat (first | refine blk_drewN ?_ _ | refine blk_drew ?_ | refine blk_alloc ?_ _)); exact BK1022.out) Tryd.underlying95 rfl (by kernel_rfl)) rfl ?_
  exact ⟨by first | rfl | (simp [errW_none, errW_some] <;> rfl) | (simp [*, errW_none, errW_some] <;> rfl), by repeat (first | (with_reducible first | exact HB.out | apply below_alloc | apply pw_below_drewN | apply below_drew1 | refine below_set ?_ GE1022.out) | exact HB.out)⟩
 ·
  rw [if_neg c2] at H
  have c2b0 : (a0 == 1) = false := beq_eq_false_iff_ne.mpr c2
  have c2b1 : (a0 != 1) = true := bne_iff_ne.mpr c2
  by_cases c5 : a0 = 2
  ·
   rw [if_pos c5] at H
   have c5b0 : (a0 == 2) = true := beq_iff_eq.mpr c5
   have c5b1 : (a0 != 2) = false := bne_eq_false_iff_eq.mpr c5
   clear c5
   simp only [Option.some.injEq, Prod.mk.injEq] at H
   obtain ⟨rfl, rfl, rfl, rfl⟩ := H
   go_enter Tryd.func70, Tryd.ntmps70
   go_wp2_with (first | ((with_reducible refine gate_dst (N := 2) rfl ?_); refine box_event ?hg (N := 2) ?hd (cs := #[.int .i64 0, .int .i64 0, .int .i64 0]) (t := 95) ?hr ?_; (case hd => rfl); (case hg => rfl); (case hr => first | (go_simp; done) | (go_simp; rfl)); intro gb1022 hg w6 hbox hb; have n0_ := Aside0.mk (below_step (by repeat (first | (with_reducible first | exact HB.out | apply below_alloc | apply pw_below_drewN | apply below_drew1) | exact HB.out)) hb); have n1_ := Aside0.mk (hbox); have n2_ := Aside0.mk ((by rw [hg]; exact (below_size (by repeat (first | (with_reducible first | exact HB.out | apply below_alloc | apply pw_below_drewN | apply below_drew1) | exact HB.out))) : w.heap.size ≤ gb1022)); have n3_ := Aside0.mk ((by rw [hg]; exact (below_size (by repeat (first | (with_reducible first | exact HB.out | apply below_alloc | apply pw_below_drewN | apply below_drew1) | exact HB.out))) : w.heap.size ≤ gb1022)); clear HB; have HB := n0_; have BK1022 := n1_; have GW1022 := n2_; have GE1022 := n3_; clear n0_ n1_ n2_ n3_; clear hb hbox hg; have hcz7_0 : w6.cell? ⟨gb1022, 0, none⟩ = some (.int .i64 0) := (blk_cell BK1022.out 0).trans rfl; have hcz7_1 : w6.cell? ⟨gb1022, 1, none⟩ = some (.int .i64 0) := (blk_cell BK1022.out 1).trans rfl; have hcz7_2 : w6.cell? ⟨gb1022, 2, none⟩ = some (.int .i64 0) := (blk_cell BK1022.out 2).trans rfl; have hfz7_0 := blk_frozen BK1022.out 0; have hfz7_1 := blk_frozen BK1022.out 1; have hfz7_2 := blk_frozen BK1022.out 2; (try (have hpz7_1 : ∀ v0_ v1_ : Value, ((w6.setCell ⟨gb1022, 0, none⟩ v0_).setCell ⟨gb1022, 1, none⟩ v1_).cell? ⟨gb1022, 1, none⟩ = some v1_ := by (intros; go_simp))); (try (have hpz7_2 : ∀ v0_ v1_ v2_ : Value, (((w6.setCell ⟨gb1022, 0, none⟩ v0_).setCell ⟨gb1022, 1, none⟩ v1_).setCell ⟨gb1022, 2, none⟩ v2_).cell? ⟨gb1022, 2, none⟩ = some v2_ := by (intros; go_simp)))))
   refine bodyPost_ret (results_ct rfl _ _ gb1022 95 #[.int .i64 0, .int .i64 8, .int .i64 0] (0, 0) _ rfl (by (with_reducible repeat (first | refine blk_drewN ?_ _ | refine blk_drew ?_ | refine blk_alloc ?_ _)); refine blk_put (cs := #[.int .i64 0, .int .i64 8, .int .i64 0]) ?_ 2 _ rfl; (with_reducible repeat (first | refine blk_drewN ?_ _ | refine blk_drew ?_ | refine blk_alloc ?_ _)); refine blk_put (cs := #[.int .i64 0, .int .i64 0, .int .i64 0]) ?_ 1 _ rfl; (with_reducible repeat (first | refine blk_drewN ?_ _ | refine blk_drew ?_ | refine blk_alloc ?_ _)); refine blk_put (cs := #[.int .i64 0, .int .i64 0, .int .i64 0]) ?_ 0 _ rfl; (with_reducible repeat (first | refine blk_drewN ?_ _ | refine blk_drew ?_ | refine blk_alloc ?_ _)); exact BK1022.out) Tryd.underlying95 rfl (by kernel_rfl)) rfl ?_
   exact ⟨by first | rfl | (simp [errW_none, errW_some] <;> rfl) | (simp [*, errW_none, errW_some] <;> rfl), by repeat (first | (with_reducible first | exact HB.out | apply below_alloc | apply pw_below_drewN | apply below_drew1 | refine below_set ?_ GE1022.out) | exact HB.out)⟩
  ·
   rw [if_neg c5] at H
   have c5b0 : (a0 == 2) = false := beq_eq_false_iff_ne.mpr c5
   have c5b1 : (a0 != 2) = true := bne_iff_ne.mpr c5
   by_cases c8 : a0 = 4
   ·
    rw [if_pos c8] at H
    have c8b0 : (a0 == 4) = true := beq_iff_eq.mpr c8
    have c8b1 : (a0 != 4) = false := bne_eq_false_iff_eq.mpr c8
    clear c8
    simp only [Option.some.injEq, Prod.mk.injEq] at H
    obtain ⟨rfl, rfl, rfl, rfl⟩ := H
    go_enter Tryd.func70, Tryd.ntmps70
    go_wp2_with (first | ((with_reducible refine gate_dst (N := 2) rfl ?_); refine box_event ?hg (N := 2) ?hd (cs := #[.int .i64 0, .int .i64 0, .int .i64 0]) (t := 95) ?hr ?_; (case hd => rfl); (case hg => rfl); (case hr => first | (go_simp; done) | (go_simp; rfl)); intro gb1022 hg w9 hbox hb; have n0_ := Aside0.mk (below_step (by repeat (first | (with_reducible first | exact HB.out | apply below_alloc | apply pw_below_drewN | apply below_drew1) | exact HB.out)) hb); have n1_ := Aside0.mk (hbox); have n2_ := Aside0.mk ((by rw [hg]; exact (below_size (by repeat (first | (with_reducible first | exact HB.out | apply below_alloc | apply pw_below_drewN | apply below_drew1) | exact HB.out))) : w.heap.size ≤ gb1022)); have n3_ := Aside0.mk ((by rw [hg]; exact (below_size (by repeat (first | (with_reducible first | exact HB.out | apply below_alloc | apply pw_below_drewN | apply below_drew1) | exact HB.out))) : w.heap.size ≤ gb1022)); clear HB; have HB := n0_; have BK1022 := n1_; have GW1022 := n2_; have GE1022 := n3_; clear n0_ n1_ n2_ n3_; clear hb hbox hg; have hcz10_0 : w9.cell? ⟨gb1022, 0, none⟩ = some (.int .i64 0) := (blk_cell BK1022.out 0).trans rfl; have hcz10_1 : w9.cell? ⟨gb1022, 1, none⟩ = some (.int .i64 0) := (blk_cell BK1022.out 1).trans rfl; have hcz10_2 : w9.cell? ⟨gb1022, 2, none⟩ = some (.int .i64 0) := (blk_cell BK1022.out 2).trans rfl; have hfz10_0 := blk_frozen BK1022.out 0; have hfz10_1 := blk_frozen BK1022.out 1; have hfz10_2 := blk_frozen BK1022.out 2; (try (have hpz10_1 : ∀ v0_ v1_ : Value, ((w9.setCell ⟨gb1022, 0, none⟩ v0_).setCell ⟨gb1022, 1, none⟩ v1_).cell? ⟨gb1022, 1, none⟩ = some v1_ := by (intros; go_simp))); (try (have hpz10_2 : ∀ v0_ v1_ v2_ : Value, (((w9.setCell ⟨gb1022, 0, none⟩ v0_).setCell ⟨gb1022, 1, none⟩ v1_).setCell ⟨gb1022, 2, none⟩ v2_).cell? ⟨gb1022, 2, none⟩ = some v2_ := by (intros; go_simp)))))
    refine bodyPost_ret (results_ct rfl _ _ gb1022 95 #[.int .i64 6, .int .i64 0, .int .i64 0] (0, 0) _ rfl (by (with_reducible repeat (first | refine blk_drewN ?_ _ | refine blk_drew ?_ | refine blk_alloc ?_ _)); refine blk_put (cs := #[.int .i64 6, .int .i64 0, .int .i64 0]) ?_ 2 _ rfl; (with_reducible repeat (first | refine blk_drewN ?_ _ | refine blk_drew ?_ | refine blk_alloc ?_ _)); refine blk_put (cs := #[.int .i64 6, .int .i64 0, .int .i64 0]) ?_ 1 _ rfl; (with_reducible repeat (first | refine blk_drewN ?_ _ | refine blk_drew ?_ | refine blk_alloc ?_ _)); refine blk_put (cs := #[.int .i64 0, .int .i64 0, .int .i64 0]) ?_ 0 _ rfl; (with_reducible repeat (first | refine blk_drewN ?_ _ | refine blk_drew ?_ | refine blk_alloc ?_ _)); exact BK1022.out) Tryd.underlying95 rfl (by kernel_rfl)) rfl ?_
    exact ⟨by first | rfl | (simp [errW_none, errW_some] <;> rfl) | (simp [*, errW_none, errW_some] <;> rfl), by repeat (first | (with_reducible first | exact HB.out | apply below_alloc | apply pw_below_drewN | apply below_drew1 | refine below_set ?_ GE1022.out) | exact HB.out)⟩
   ·
    rw [if_neg c8] at H
    have c8b0 : (a0 == 4) = false := beq_eq_false_iff_ne.mpr c8
    have c8b1 : (a0 != 4) = true := bne_iff_ne.mpr c8
    by_cases c11 : a0 = 5
    ·
     rw [if_pos c11] at H
     have c11b0 : (a0 == 5) = true := beq_iff_eq.mpr c11
     have c11b1 : (a0 != 5) = false := bne_eq_false_iff_eq.mpr c11
     clear c11
     simp only [Option.some.injEq, Prod.mk.injEq] at H
     obtain ⟨rfl, rfl, rfl, rfl⟩ := H
     go_enter Tryd.func70, Tryd.ntmps70
     go_wp2_with (first | ((with_reducible refine gate_dst (N := 2) rfl ?_); refine box_event ?hg (N := 2) ?hd (cs := #[.int .i64 0, .int .i64 0, .int .i64 0]) (t := 95) ?hr ?_; (case hd => rfl); (case hg => rfl); (case hr => first | (go_simp; done) | (go_simp; rfl)); intro gb1022 hg w12 hbox hb; have n0_ := Aside0.mk (below_step (by repeat (first | (with_reducible first | exact HB.out | apply below_alloc | apply pw_below_drewN | apply below_drew1) | exact HB.out)) hb); have n1_ := Aside0.mk (hbox); have n2_ := Aside0.mk ((by rw [hg]; exact (below_size (by repeat (first | (with_reducible first | exact HB.out | apply below_alloc | apply pw_below_drewN | apply below_drew1) | exact HB.out))) : w.heap.size ≤ gb1022)); have n3_ := Aside0.mk ((by rw [hg]; exact (below_size (by repeat (first | (with_reducible first | exact HB.out | apply below_alloc | apply pw_below_drewN | apply below_drew1) | exact HB.out))) : w.heap.size ≤ gb1022)); clear HB; have HB := n0_; have BK1022 := n1_; have GW1022 := n2_; have GE1022 := n3_; clear n0_ n1_ n2_ n3_; clear hb hbox hg; have hcz13_0 : w12.cell? ⟨gb1022, 0, none⟩ = some (.int .i64 0) := (blk_cell BK1022.out 0).trans rfl; have hcz13_1 : w12.cell? ⟨gb1022, 1, none⟩ = some (.int .i64 0) := (blk_cell BK1022.out 1).trans rfl; have hcz13_2 : w12.cell? ⟨gb1022, 2, none⟩ = some (.int .i64 0) := (blk_cell BK1022.out 2).trans rfl; have hfz13_0 := blk_frozen BK1022.out 0; have hfz13_1 := blk_frozen BK1022.out 1; have hfz13_2 := blk_frozen BK1022.out 2; (try (have hpz13_1 : ∀ v0_ v1_ : Value, ((w12.setCell ⟨gb1022, 0, none⟩ v0_).setCell ⟨gb1022, 1, none⟩ v1_).cell? ⟨gb1022, 1, none⟩ = some v1_ := by (intros; go_simp))); (try (have hpz13_2 : ∀ v0_ v1_ v2_ : Value, (((w12.setCell ⟨gb1022, 0, none⟩ v0_).setCell ⟨gb1022, 1, none⟩ v1_).setCell ⟨gb1022, 2, none⟩ v2_).cell? ⟨gb1022, 2, none⟩ = some v2_ := by (intros; go_simp)))))
     refine bodyPost_ret (results_ct rfl _ _ gb1022 95 #[.int .i64 24, .int .i64 0, .int .i64 0] (0, 0) _ rfl (by (with_reducible repeat (first | refine blk_drewN ?_ _ | refine blk_drew ?_ | refine blk_alloc ?_ _)); refine blk_put (cs := #[.int .i64 24, .int .i64 0, .int .i64 0]) ?_ 2 _ rfl; (with_reducible repeat (first | refine blk_drewN ?_ _ | refine blk_drew ?_ | refine blk_alloc ?_ _)); refine blk_put (cs := #[.int .i64 24, .int .i64 0, .int .i64 0]) ?_ 1 _ rfl; (with_reducible repeat (first | refine blk_drewN ?_ _ | refine blk_drew ?_ | refine blk_alloc ?_ _)); refine blk_put (cs := #[.int .i64 0, .int .i64 0, .int .i64 0]) ?_ 0 _ rfl; (with_reducible repeat (first | refine blk_drewN ?_ _ | refine blk_drew ?_ | refine blk_alloc ?_ _)); exact BK1022.out) Tryd.underlying95 rfl (by kernel_rfl)) rfl ?_
     exact ⟨by first | rfl | (simp [errW_none, errW_some] <;> rfl) | (simp [*, errW_none, errW_some] <;> rfl), by repeat (first | (with_reducible first | exact HB.out | apply below_alloc | apply pw_below_drewN | apply below_drew1 | refine below_set ?_ GE1022.out) | exact HB.out)⟩
    ·
     rw [if_neg c11] at H
     have c11b0 : (a0 == 5) = false := beq_eq_false_iff_ne.mpr c11
     have c11b1 : (a0 != 5) = true := bne_iff_ne.mpr c11
     by_cases c14 : a0 = 7
     ·
      rw [if_pos c14] at H
      have c14b0 : (a0 == 7) = true := beq_iff_eq.mpr c14
      have c14b1 : (a0 != 7) = false := bne_eq_false_iff_eq.mpr c14
      clear c14
      simp only [Option.some.injEq, Prod.mk.injEq] at H
      obtain ⟨rfl, rfl, rfl, rfl⟩ := H
      go_enter Tryd.func70, Tryd.ntmps70
      go_wp2_with (first | ((with_reducible refine gate_dst (N := 2) rfl ?_); refine box_event ?hg (N := 2) ?hd (cs := #[.int .i64 0, .int .i64 0, .int .i64 0]) (t := 95) ?hr ?_; (case hd => rfl); (case hg => rfl); (case hr => first | (go_simp; done) | (go_simp; rfl)); intro gb1022 hg w15 hbox hb; have n0_ := Aside0.mk (below_step (by repeat (first | (with_reducible first | exact HB.out | apply below_alloc | apply pw_below_drewN | apply below_drew1) | exact HB.out)) hb); have n1_ := Aside0.mk (hbox); have n2_ := Aside0.mk ((by rw [hg]; exact (below_size (by repeat (first | (with_reducible first | exact HB.out | apply below_alloc | apply pw_below_drewN | apply below_drew1) | exact HB.out))) : w.heap.size ≤ gb1022)); have n3_ := Aside0.mk ((by rw [hg]; exact (below_size (by repeat (first | (with_reducible first | exact HB.out | apply below_alloc | apply pw_below_drewN | apply below_drew1) | exact HB.out))) : w.heap.size ≤ gb1022)); clear HB; have HB := n0_; have BK1022 := n1_; have GW1022 := n2_; have GE1022 := n3_; clear n0_ n1_ n2_ n3_; clear hb hbox hg; have hcz16_0 : w15.cell? ⟨gb1022, 0, none⟩ = some (.int .i64 0) := (blk_cell BK1022.out 0).trans rfl; have hcz16_1 : w15.cell? ⟨gb1022, 1, none⟩ = some (.int .i64 0) := (blk_cell BK1022.out 1).trans rfl; have hcz16_2 : w15.cell? ⟨gb1022, 2, none⟩ = some (.int .i64 0) := (blk_cell BK1022.out 2).trans rfl; have hfz16_0 := blk_frozen BK1022.out 0; have hfz16_1 := blk_frozen BK1022.out 1; have hfz16_2 := blk_frozen BK1022.out 2; (try (have hpz16_1 : ∀ v0_ v1_ : Value, ((w15.setCell ⟨gb1022, 0, none⟩ v0_).setCell ⟨gb1022, 1, none⟩ v1_).cell? ⟨gb1022, 1, none⟩ = some v1_ := by (intros; go_simp))); (try (have hpz16_2 : ∀ v0_ v1_ v2_ : Value, (((w15.setCell ⟨gb1022, 0, none⟩ v0_).setCell ⟨gb1022, 1, none⟩ v1_).setCell ⟨gb1022, 2, none⟩ v2_).cell? ⟨gb1022, 2, none⟩ = some v2_ := by (intros; go_simp)))))
      refine bodyPost_ret (results_ct rfl _ _ gb1022 95 #[.int .i64 12, .int .i64 0, .int .i64 0] (0, 0) _ rfl (by (with_reducible repeat (first | refine blk_drewN ?_ _ | refine blk_drew ?_ | refine blk_alloc ?_ _)); refine blk_put (cs := #[.int .i64 12, .int .i64 0, .int .i64 0]) ?_ 2 _ rfl; (with_reducible repeat (first | refine blk_drewN ?_ _ | refine blk_drew ?_ | refine blk_alloc ?_ _)); refine blk_put (cs := #[.int .i64 12, .int .i64 0, .int .i64 0]) ?_ 1 _ rfl; (with_reducible repeat (first | refine blk_drewN ?_ _ | refine blk_drew ?_ | refine blk_alloc ?_ _)); refine blk_put (cs := #[.int .i64 0, .int .i64 0, .int .i64 0]) ?_ 0 _ rfl; (with_reducible repeat (first | refine blk_drewN ?_ _ | refine blk_drew ?_ | refine blk_alloc ?_ _)); exact BK1022.out) Tryd.underlying95 rfl (by kernel_rfl)) rfl ?_
      exact ⟨by first | rfl | (simp [errW_none, errW_some] <;> rfl) | (simp [*, errW_none, errW_some] <;> rfl), by repeat (first | (with_reducible first | exact HB.out | apply below_alloc | apply pw_below_drewN | apply below_drew1 | refine below_set ?_ GE1022.out) | exact HB.out)⟩
     ·
      rw [if_neg c14] at H
      have c14b0 : (a0 == 7) = false := beq_eq_false_iff_ne.mpr c14
      have c14b1 : (a0 != 7) = true := bne_iff_ne.mpr c14
      simp only [Option.some.injEq, Prod.mk.injEq] at H
      obtain ⟨rfl, rfl, rfl, rfl⟩ := H
      go_enter Tryd.func70, Tryd.ntmps70
      go_wp2_with (first | ((with_reducible refine gate_dst (N := 2) rfl ?_); refine box_event ?hg (N := 2) ?hd (cs := #[.int .i64 0, .int .i64 0, .int .i64 0]) (t := 95) ?hr ?_; (case hd => rfl); (case hg => rfl); (case hr => first | (go_simp; done) | (go_simp; rfl)); intro gb1022 hg w17 hbox hb; have n0_ := Aside0.mk (below_step (by repeat (first | (with_reducible first | exact HB.out | apply below_alloc | apply pw_below_drewN | apply below_drew1) | exact HB.out)) hb); have n1_ := Aside0.mk (hbox); have n2_ := Aside0.mk ((by rw [hg]; exact (below_size (by repeat (first | (with_reducible first | exact HB.out | apply below_alloc | apply pw_below_drewN | apply below_drew1) | exact HB.out))) : w.heap.size ≤ gb1022)); have n3_ := Aside0.mk ((by rw [hg]; exact (below_size (by repeat (first | (with_reducible first | exact HB.out | apply below_alloc | apply pw_below_drewN | apply below_drew1) | exact HB.out))) : w.heap.size ≤ gb1022)); clear HB; have HB := n0_; have BK1022 := n1_; have GW1022 := n2_; have GE1022 := n3_; clear n0_ n1_ n2_ n3_; clear hb hbox hg; have hcz18_0 : w17.cell? ⟨gb1022, 0, none⟩ = some (.int .i64 0) := (blk_cell BK1022.out 0).trans rfl; have hcz18_1 : w17.cell? ⟨gb1022, 1, none⟩ = some (.int .i64 0) := (blk_cell BK1022.out 1).trans rfl; have hcz18_2 : w17.cell? ⟨gb1022, 2, none⟩ = some (.int .i64 0) := (blk_cell BK1022.out 2).trans rfl; have hfz18_0 := blk_frozen BK1022.out 0; have hfz18_1 := blk_frozen BK1022.out 1; have hfz18_2 := blk_frozen BK1022.out 2; (try (have hpz18_1 : ∀ v0_ v1_ : Value, ((w17.setCell ⟨gb1022, 0, none⟩ v0_).setCell ⟨gb1022, 1, none⟩ v1_).cell? ⟨gb1022, 1, none⟩ = some v1_ := by (intros; go_simp))); (try (have hpz18_2 : ∀ v0_ v1_ v2_ : Value, (((w17.setCell ⟨gb1022, 0, none⟩ v0_).setCell ⟨gb1022, 1, none⟩ v1_).setCell ⟨gb1022, 2, none⟩ v2_).cell? ⟨gb1022, 2, none⟩ = some v2_ := by (intros; go_simp)))))
      refine bodyPost_ret (results_ct rfl _ _ gb1022 95 #[.int .i64 0, .int .i64 0, .int .i64 0] (0, 0) _ rfl (by (with_reducible repeat (first | refine blk_drewN ?_ _ | refine blk_drew ?_ | refine blk_alloc ?_ _)); refine blk_put (cs := #[.int .i64 0, .int .i64 0, .int .i64 0]) ?_ 2 _ rfl; (with_reducible repeat (first | refine blk_drewN ?_ _ | refine blk_drew ?_ | refine blk_alloc ?_ _)); refine blk_put (cs := #[.int .i64 0, .int .i64 0, .int .i64 0]) ?_ 1 _ rfl; (with_reducible repeat (first | refine blk_drewN ?_ _ | refine blk_drew ?_ | refine blk_alloc ?_ _)); refine blk_put (cs := #[.int .i64 0, .int .i64 0, .int .i64 0]) ?_ 0 _ rfl; (with_reducible repeat (first | refine blk_drewN ?_ _ | refine blk_drew ?_ | refine blk_alloc ?_ _)); exact BK1022.out) Tryd.underlying95 rfl (by kernel_rfl)) rfl ?_
      exact ⟨by first | rfl | (simp [errW_none, errW_some] <;> rfl) | (simp [*, errW_none, errW_some] <;> rfl), by repeat (first | (with_reducible first | exact HB.out | apply below_alloc | apply pw_below_drewN | apply below_drew1 | refine below_set ?_ GE1022.out) | exact HB.out)⟩

def calendar_valid.f (a0 : Int) : Option (Bool) := if a0 ≥ 0 then (some (decide (a0 ≤ 36524))) else (some false)
set_option maxHeartbeats 8000000 in
set_option maxRecDepth 100000 in
theorem calendar_valid.calls (a0 : Int) (r : Bool) (w : World) (h : calendar_valid.f a0 = some r) :
  Calls Tryd.prog 76 #[.int .i64 a0] w fun e w' => e = .returned (.bool r) ∧ Drawn0 w w' := by
 have H : (if a0 ≥ 0 then (some (decide (a0 ≤ 36524))) else (some false)) = some r := h
 clear h
 by_cases c2 : a0 ≥ 0
 ·
  rw [if_pos c2] at H
  have c2b0 : decide (0 ≤ a0) = true := decide_eq_true c2
  clear c2
  obtain rfl := Option.some.inj H
  go_enter Tryd.func76, Tryd.ntmps76
  go_wp2
  go_ret
  exact ⟨by first | rfl | (simp; done) | (simp [*]; done), by repeat (first | exact Drawn0.refl _ | apply Drawn0.step)⟩
 ·
  rw [if_neg c2] at H
  have c2b0 : decide (0 ≤ a0) = false := decide_eq_false c2
  clear c2
  obtain rfl := Option.some.inj H
  go_enter Tryd.func76, Tryd.ntmps76
  go_wp2
  go_ret
  exact ⟨by first | rfl | (simp; done) | (simp [*]; done), by repeat (first | exact Drawn0.refl _ | apply Drawn0.step)⟩

def calendar_Valid.l0 : Nat → List Int → List Int → Int → Int → Option (Int)
 | 0, _, _, _, _ => none
 | k + 1, x0, x8, x9, x10 => if x10 < x9 then (if 0 ≤ x10 then (if x10 < (x8.length : Int) then ((calendar_valid.f (rd x8 x10)).bind fun t1024 => (if t1024 = true then (if x10 > 0 then (if 0 ≤ (wrap64 (x10 - 1)) then (if (wrap64 (x10 - 1)) < (x0.length : Int) then (if (rd x8 x10) ≤ (rd x0 (wrap64 (x10 - 1))) then (some 9) else (calendar_Valid.l0 k x0 x8 x9 (wrap64 (x10 + 1)))) else (none)) else (none)) else (calendar_Valid.l0 k x0 x8 x9 (wrap64 (x10 + 1)))) else (some 2))) else (none)) else (none)) else (some 0)
def calendar_Valid.f (k : Nat) (l0 : List Int) : Option (Int) := if (l0.length : Int) > 2000 then (some 8) else (calendar_Valid.l0 k l0 l0 (l0.length : Int) 0)
set_option maxHeartbeats 8000000 in
set_option maxRecDepth 100000 in
theorem calendar_Valid.calls (k : Nat) (A0 : Option Addr) (c0 : Nat) (l0 : List Int) (r : Int) (w : World) (hr0 : Kd.C (Kd.int .i64) w A0 l0.length l0) (hc0 : l0.length ≤ c0) (h : calendar_Valid.f k l0 = some r) :
  Calls Tryd.prog 75 #[.slice A0 l0.length c0] w fun e w' => e = .returned (.int .i64 r) ∧ Drawn0 w w' := by
 have HR0 := Aside0.mk hr0
 have HC0 := Aside0.mk hc0
 clear hr0 hc0
 have H : (if (l0.length : Int) > 2000 then (some 8) else (calendar_Valid.l0 k l0 l0 (l0.length : Int) 0)) = some r := h
 clear h
 by_cases c2 : (l0.length : Int) > 2000
 ·
  rw [if_pos c2] at H
  have c2b0 : decide (2000 < (l0.length : Int)) = true := decide_eq_true c2
  have c2b1 : decide (2000 < l0.length) = true := decide_eq_true (by omega)
  clear c2
  obtain rfl := Option.some.inj H
  go_enter Tryd.func75, Tryd.ntmps75
  go_wp2
  go_ret
  exact ⟨by first | rfl | (simp; done) | (simp [*]; done), by repeat (first | exact Drawn0.refl _ | apply Drawn0.step)⟩
 ·
  rw [if_neg c2] at H
  have c2b0 : decide (2000 < (l0.length : Int)) = false := decide_eq_false c2
  have c2b1 : decide (2000 < l0.length) = false := decide_eq_false (by omega)
  clear c2
  have H' := Aside0.mk H
  clear H
  go_enter Tryd.func75, Tryd.ntmps75
  go_wp2
  go_loopg [10] k (fun kq v10 w' => ∃ (x10_1 : Int), v10 = .int .i64 x10_1 ∧ Aside0 (calendar_Valid.l0 kq l0 l0 (l0.length : Int) x10_1 = some r) ∧ Aside0 (kq ≤ k) ∧ Drawn0 w w')
  case atStart => exact ⟨(0), (by first | rfl | (simp; done) | (simp [*]; done)), H', ⟨Nat.le_refl _⟩, by repeat (first | exact Drawn0.refl _ | apply Drawn0.step)⟩
  case round =>
   clear H'
   try clear c2
   try clear c2b0
   try clear c2b1
   try clear p2
   obtain ⟨x10_1, rfl, HA, HK1, ⟨m1, rfl⟩⟩ := hrel
   cases gk with
   | zero => exact absurd HA.out (by simp [calendar_Valid.l0])
   | succ k1 =>
    have H := HA.out
    clear HA
    simp only [calendar_Valid.l0] at H
    by_cases c3 : x10_1 < (l0.length : Int)
    ·
     rw [if_pos c3] at H
     have c3b0 : decide (x10_1 < (l0.length : Int)) = true := decide_eq_true c3
     clear c3
     by_cases c4 : 0 ≤ x10_1
     ·
      rw [if_pos c4] at H
      have c4b0 : decide (0 ≤ x10_1) = true := decide_eq_true c4
      clear c4
      by_cases c5 : x10_1 < (l0.length : Int)
      ·
       rw [if_pos c5] at H
       have c5b0 : decide (x10_1 < (l0.length : Int)) = true := decide_eq_true c5
       clear c5
       replace H := Option.bind_eq_some_iff.mp H
       obtain ⟨t1024, A60, H⟩ := H
       replace H : (if t1024 = true then (if x10_1 > 0 then (if 0 ≤ (wrap64 (x10_1 - 1)) then (if (wrap64 (x10_1 - 1)) < (l0.length : Int) then (if (rd l0 x10_1) ≤ (rd l0 (wrap64 (x10_1 - 1))) then (some 9) else (calendar_Valid.l0 k1 l0 l0 (l0.length : Int) (wrap64 (x10_1 + 1)))) else (none)) else (none)) else (calendar_Valid.l0 k1 l0 l0 (l0.length : Int) (wrap64 (x10_1 + 1)))) else (some 2)) = some r := H
       have A6 := Aside0.mk A60
       clear A60
       by_cases c7 : t1024 = true
       ·
        subst c7
        have H1 : (if x10_1 > 0 then (if 0 ≤ (wrap64 (x10_1 - 1)) then (if (wrap64 (x10_1 - 1)) < (l0.length : Int) then (if (rd l0 x10_1) ≤ (rd l0 (wrap64 (x10_1 - 1))) then (some 9) else (calendar_Valid.l0 k1 l0 l0 (l0.length : Int) (wrap64 (x10_1 + 1)))) else (none)) else (none)) else (calendar_Valid.l0 k1 l0 l0 (l0.length : Int) (wrap64 (x10_1 + 1)))) = some r := by rw [if_pos rfl] at H; exact H
        clear H
        have H := H1
        clear H1
        by_cases c8 : x10_1 > 0
        ·
         rw [if_pos c8] at H
         have c8b0 : decide (0 < x10_1) = true := decide_eq_true c8
         clear c8
         obtain ⟨ji9, hji9⟩ : ∃ j_ : Int, (wrap64 (x10_1 - 1)) = j_ := ⟨_, rfl⟩
         replace H : (if 0 ≤ (ji9) then (if (ji9) < (l0.length : Int) then (if (rd l0 x10_1) ≤ (rd l0 (ji9)) then (some 9) else (calendar_Valid.l0 k1 l0 l0 (l0.length : Int) (wrap64 (x10_1 + 1)))) else (none)) else (none)) = some r := by first | (rw [hji9] at H; exact H) | (simp only [hji9] at H ⊢; exact H)
         (try rw [hji9] at A6)
         have hji9w : (IntKind.i64.wrap (x10_1 - 1)) = ji9 := (i64_w _).trans hji9
         by_cases c10 : 0 ≤ (ji9)
         ·
          rw [if_pos c10] at H
          have c10b0 : decide (0 ≤ (ji9)) = true := decide_eq_true c10
          clear c10
          by_cases c11 : (ji9) < (l0.length : Int)
          ·
           rw [if_pos c11] at H
           have c11b0 : decide ((ji9) < (l0.length : Int)) = true := decide_eq_true c11
           clear c11
           by_cases c12 : (rd l0 x10_1) ≤ (rd l0 (ji9))
           ·
            rw [if_pos c12] at H
            have c12b0 : decide ((rd l0 x10_1) ≤ (rd l0 (ji9))) = true := decide_eq_true c12
            clear c12
            obtain rfl := Option.some.inj H
            have p1023 : 0 ≤ (x10_1 : Int) := of_decide_eq_true (by first | (with_reducible assumption) | assumption)
            have q1023 : x10_1 < (l0.length : Int) := of_decide_eq_true (by first | (with_reducible assumption) | assumption)
            obtain ⟨ad1023, e1023, hx1023_0⟩ := Kd.at_int HR0.out x10_1 p1023 q1023
            cases e1023
            replace p1023 := eq_true p1023
            replace q1023 := eq_true q1023
            go_wp2_with (first | ((with_reducible refine gate_callee (f := 76) rfl ?_); refine goesL_ (some 16) rfl rfl Tryd.func76 (by kernel_rfl) rfl #[.int .i64 (rd l0 x10_1)] rfl (by (try simp only [List.map_toArray, List.map_cons, List.map_nil]); first | done | rfl | (simp only [List.length_drop, List.length_take]; rfl)) ?_; (with_reducible refine (calendar_valid.calls (rd l0 x10_1) true _ A6.out).mono ?_); rintro e w' ⟨rfl, ⟨nd, rfl⟩⟩; refine ⟨_, rfl, ?_⟩; have p1025 : 0 ≤ ((ji9) : Int) := of_decide_eq_true (by first | (with_reducible assumption) | assumption); have q1025 : (ji9) < (l0.length : Int) := of_decide_eq_true (by first | (with_reducible assumption) | assumption); obtain ⟨ad1025, e1025, hx1025_0⟩ := Kd.at_int HR0.out (ji9) p1025 q1025; obtain rfl : ad1023 = ad1025 := (by injection e1025); replace p1025 := eq_true p1025; replace q1025 := eq_true q1025))
            go_ret
            exact ⟨by first | rfl | (simp; done) | (simp only [← hji9] <;> (first | rfl | simp)) | (simp [*]; done), by repeat (first | exact Drawn0.refl _ | apply Drawn0.step)⟩
           ·
            rw [if_neg c12] at H
            have c12b0 : decide ((rd l0 x10_1) ≤ (rd l0 (ji9))) = false := decide_eq_false c12
            clear c12
            have H' := Aside0.mk H
            clear H
            have p1023 : 0 ≤ (x10_1 : Int) := of_decide_eq_true (by first | (with_reducible assumption) | assumption)
            have q1023 : x10_1 < (l0.length : Int) := of_decide_eq_true (by first | (with_reducible assumption) | assumption)
            obtain ⟨ad1023, e1023, hx1023_0⟩ := Kd.at_int HR0.out x10_1 p1023 q1023
            cases e1023
            replace p1023 := eq_true p1023
            replace q1023 := eq_true q1023
            go_wp2_with (first | ((with_reducible refine gate_callee (f := 76) rfl ?_); refine goesL_ (some 16) rfl rfl Tryd.func76 (by kernel_rfl) rfl #[.int .i64 (rd l0 x10_1)] rfl (by (try simp only [List.map_toArray, List.map_cons, List.map_nil]); first | done | rfl | (simp only [List.length_drop, List.length_take]; rfl)) ?_; (with_reducible refine (calendar_valid.calls (rd l0 x10_1) true _ A6.out).mono ?_); rintro e w' ⟨rfl, ⟨nd, rfl⟩⟩; refine ⟨_, rfl, ?_⟩; have p1025 : 0 ≤ ((ji9) : Int) := of_decide_eq_true (by first | (with_reducible assumption) | assumption); have q1025 : (ji9) < (l0.length : Int) := of_decide_eq_true (by first | (with_reducible assumption) | assumption); obtain ⟨ad1025, e1025, hx1025_0⟩ := Kd.at_int HR0.out (ji9) p1025 q1025; obtain rfl : ad1023 = ad1025 := (by injection e1025); replace p1025 := eq_true p1025; replace q1025 := eq_true q1025))
            go_roundg k1
            case measure => have := HK1.out; omega
            case rel => exact ⟨(wrap64 (x10_1 + 1)), (by first | rfl | (simp; done) | (simp [*]; done)), H', ⟨by have := HK1.out; omega⟩, by repeat (first | exact Drawn0.refl _ | apply Drawn0.step)⟩
          ·
           rw [if_neg c11] at H
           exact absurd H (by simp)
         ·
          rw [if_neg c10] at H
          exact absurd H (by simp)
        ·
         rw [if_neg c8] at H
         have c8b0 : decide (0 < x10_1) = false := decide_eq_false c8
         clear c8
         have H' := Aside0.mk H
         clear H
         have p1023 : 0 ≤ (x10_1 : Int) := of_decide_eq_true (by first | (with_reducible assumption) | assumption)
         have q1023 : x10_1 < (l0.length : Int) := of_decide_eq_true (by first | (with_reducible assumption) | assumption)
         obtain ⟨ad1023, e1023, hx1023_0⟩ := Kd.at_int HR0.out x10_1 p1023 q1023
         cases e1023
         replace p1023 := eq_true p1023
         replace q1023 := eq_true q1023
         go_wp2_with (first | ((with_reducible refine gate_callee (f := 76) rfl ?_); refine goesL_ (some 16) rfl rfl Tryd.func76 (by kernel_rfl) rfl #[.int .i64 (rd l0 x10_1)] rfl (by (try simp only [List.map_toArray, List.map_cons, List.map_nil]); first | done | rfl | (simp only [List.length_drop, List.length_take]; rfl)) ?_; (with_reducible refine (calendar_valid.calls (rd l0 x10_1) true _ A6.out).mono ?_); rintro e w' ⟨rfl, ⟨nd, rfl⟩⟩; refine ⟨_, rfl, ?_⟩))
         go_roundg k1
         case measure => have := HK1.out; omega
         case rel => exact ⟨(wrap64 (x10_1 + 1)), (by first | rfl | (simp; done) | (simp [*]; done)), H', ⟨by have := HK1.out; omega⟩, by repeat (first | exact Drawn0.refl _ | apply Drawn0.step)⟩
       ·
        replace c7 := Bool.eq_false_iff.mpr c7
        subst c7
        have H1 : (some 2) = some r := by rw [if_neg (show ¬ (false = true) by decide)] at H; exact H
        clear H
        have H := H1
        clear H1
        obtain rfl := Option.some.inj H
        have p1023 : 0 ≤ (x10_1 : Int) := of_decide_eq_true (by first | (with_reducible assumption) | assumption)
        have q1023 : x10_1 < (l0.length : Int) := of_decide_eq_true (by first | (with_reducible assumption) | assumption)
        obtain ⟨ad1023, e1023, hx1023_0⟩ := Kd.at_int HR0.out x10_1 p1023 q1023
        cases e1023
        replace p1023 := eq_true p1023
        replace q1023 := eq_true q1023
        go_wp2_with (first | ((with_reducible refine gate_callee (f := 76) rfl ?_); refine goesL_ (some 16) rfl rfl Tryd.func76 (by kernel_rfl) rfl #[.int .i64 (rd l0 x10_1)] rfl (by (try simp only [List.map_toArray, List.map_cons, List.map_nil]); first | done | rfl | (simp only [List.length_drop, List.length_take]; rfl)) ?_; (with_reducible refine (calendar_valid.calls (rd l0 x10_1) false _ A6.out).mono ?_); rintro e w' ⟨rfl, ⟨nd, rfl⟩⟩; refine ⟨_, rfl, ?_⟩))
        go_ret
        exact ⟨by first | rfl | (simp; done) | (simp [*]; done), by repeat (first | exact Drawn0.refl _ | apply Drawn0.step)⟩
      ·
       rw [if_neg c5] at H
       exact absurd H (by simp)
     ·
      rw [if_neg c4] at H
      exact absurd H (by simp)
    ·
     rw [if_neg c3] at H
     have c3b0 : decide (x10_1 < (l0.length : Int)) = false := decide_eq_false c3
     clear c3
     obtain rfl := Option.some.inj H
     go_wp2
     go_ret
     exact ⟨by first | rfl | (simp; done) | (simp [*]; done), by repeat (first | exact Drawn0.refl _ | apply Drawn0.step)⟩

def calendar_leap.f (a0 : Int) : Option (Bool) := if (Int.tmod a0 4) = 0 then (if (Int.tmod a0 100) = 0 then (some ((Int.tmod a0 400) == 0)) else (some true)) else (some false)
set_option maxHeartbeats 8000000 in
set_option maxRecDepth 100000 in
theorem calendar_leap.calls (a0 : Int) (r : Bool) (w : World) (h : calendar_leap.f a0 = some r) :
  Calls Tryd.prog 112 #[.int .i64 a0] w fun e w' => e = .returned (.bool r) ∧ Drawn0 w w' := by
 have H : (if (Int.tmod a0 4) = 0 then (if (Int.tmod a0 100) = 0 then (some ((Int.tmod a0 400) == 0)) else (some true)) else (some false)) = some r := h
 clear h
 by_cases c2 : (Int.tmod a0 4) = 0
 ·
  rw [if_pos c2] at H
  have c2b0 : ((Int.tmod a0 4) == 0) = true := beq_iff_eq.mpr c2
  have c2b1 : ((Int.tmod a0 4) != 0) = false := bne_eq_false_iff_eq.mpr c2
  clear c2
  by_cases c3 : (Int.tmod a0 100) = 0
  ·
   rw [if_pos c3] at H
   have c3b0 : ((Int.tmod a0 100) == 0) = true := beq_iff_eq.mpr c3
   have c3b1 : ((Int.tmod a0 100) != 0) = false := bne_eq_false_iff_eq.mpr c3
   clear c3
   obtain rfl := Option.some.inj H
   go_enter Tryd.func112, Tryd.ntmps112
   go_wp2
   go_ret
   exact ⟨by first | rfl | (simp; done) | (simp [*]; done), by repeat (first | exact Drawn0.refl _ | apply Drawn0.step)⟩
  ·
   rw [if_neg c3] at H
   have c3b0 : ((Int.tmod a0 100) == 0) = false := beq_eq_false_iff_ne.mpr c3
   have c3b1 : ((Int.tmod a0 100) != 0) = true := bne_iff_ne.mpr c3
   obtain rfl := Option.some.inj H
   go_enter Tryd.func112, Tryd.ntmps112
   go_wp2
   go_ret
   exact ⟨by first | rfl | (simp; done) | (simp [*]; done), by repeat (first | exact Drawn0.refl _ | apply Drawn0.step)⟩
 ·
  rw [if_neg c2] at H
  have c2b0 : ((Int.tmod a0 4) == 0) = false := beq_eq_false_iff_ne.mpr c2
  have c2b1 : ((Int.tmod a0 4) != 0) = true := bne_iff_ne.mpr c2
  obtain rfl := Option.some.inj H
  go_enter Tryd.func112, Tryd.ntmps112
  go_wp2
  go_ret
  exact ⟨by first | rfl | (simp; done) | (simp [*]; done), by repeat (first | exact Drawn0.refl _ | apply Drawn0.step)⟩

def monthLengths : List Int := [31, 28, 31, 30, 31, 30, 31, 31, 30, 31, 30, 31]
def calendar_length.f (a0 : Int) (a1 : Int) : Option (Int) := if a1 = 2 then ((calendar_leap.f a0).bind fun t => if t = true then some 29 else some 28) else if 1 ≤ a1 then (if a1 ≤ 12 then some (rd monthLengths (a1 - 1)) else none) else none
theorem months_cell {w : World} (h : GL_lengths w) {i : Nat} (hi : i < 12) : w.cell? ⟨1, i, none⟩ = some (.int .i64 (rd monthLengths i)) := by
 obtain ⟨t, fr, h⟩ := h
 have e : w.cell? ⟨1, i, none⟩ = cells_lengths[i]? := by
  unfold World.cell?
  rw [h]
  rfl
 rw [e]
 have hall : ∀ i : Nat, i < 12 → cells_lengths[i]? = some (.int .i64 (rd monthLengths i)) := by
  intro i hi
  match i, hi with
  | 0, _ => rfl
  | 1, _ => rfl
  | 2, _ => rfl
  | 3, _ => rfl
  | 4, _ => rfl
  | 5, _ => rfl
  | 6, _ => rfl
  | 7, _ => rfl
  | 8, _ => rfl
  | 9, _ => rfl
  | 10, _ => rfl
  | 11, _ => rfl
 exact hall i hi
set_option maxHeartbeats 8000000 in
set_option maxRecDepth 100000 in
theorem calendar_length.calls (a0 : Int) (a1 : Int) (r : Int) (w : World) (hG_lengths : GL_lengths w) (h : calendar_length.f a0 a1 = some r) :
  Calls Tryd.prog 98 #[.int .i64 a0, .int .i64 a1] w fun e w' => e = .returned (.int .i64 r) ∧ Drawn0 w w' := by
 unfold calendar_length.f at h
 have HG := Aside0.mk hG_lengths
 clear hG_lengths
 by_cases c2 : a1 = 2
 ·
  rw [if_pos c2] at h
  obtain ⟨t, ht, h⟩ := Option.bind_eq_some_iff.mp h
  have HL := Aside0.mk ht
  clear ht
  subst c2
  have hb := months_cell (HG.out : GL_lengths w) (i := 1) (by omega)
  cases t with
  | true =>
   rw [if_pos rfl] at h
   obtain rfl := Option.some.inj h
   clear h
   go_enter Tryd.func98, Tryd.ntmps98
   go_wp2_with (first | (go_at_call 112; (with_reducible refine (calendar_leap.calls a0 true _ HL.out).mono ?_); rintro e w' ⟨rfl, ⟨nd, rfl⟩⟩))
   go_ret
   exact ⟨rfl, by repeat (first | exact Drawn0.refl _ | apply Drawn0.step)⟩
  | false =>
   rw [if_neg (by decide)] at h
   obtain rfl := Option.some.inj h
   clear h
   go_enter Tryd.func98, Tryd.ntmps98
   go_wp2_with (first | (go_at_call 112; (with_reducible refine (calendar_leap.calls a0 false _ HL.out).mono ?_); rintro e w' ⟨rfl, ⟨nd, rfl⟩⟩))
   go_ret
   exact ⟨rfl, by repeat (first | exact Drawn0.refl _ | apply Drawn0.step)⟩
 ·
  rw [if_neg c2] at h
  by_cases c3 : 1 ≤ a1
  ·
   rw [if_pos c3] at h
   by_cases c4 : a1 ≤ 12
   ·
    rw [if_pos c4] at h
    obtain ⟨i, rfl⟩ : ∃ i : Nat, a1 = i + 1 := ⟨(a1 - 1).toNat, by omega⟩
    have hi : i < 12 := by omega
    have hb := months_cell HG.out hi
    have e1 : ((i : Int) + 1 - 1) = i := by omega
    rw [e1] at h
    obtain rfl := Option.some.inj h
    clear h e1
    have c2b : ((i : Int) + 1 == 2) = false := beq_eq_false_iff_ne.mpr c2
    clear c2
    go_enter Tryd.func98, Tryd.ntmps98
    go_wp2
    go_ret
    exact ⟨rfl, by repeat (first | exact Drawn0.refl _ | apply Drawn0.step)⟩
   ·
    rw [if_neg c4] at h
    exact absurd h (by simp)
  ·
   rw [if_neg c3] at h
   exact absurd h (by simp)

def calendar_days.f (a0 : Int) : Option (Int) := (calendar_leap.f a0).bind fun t1026 => (if t1026 = true then (some 366) else (some 365))
set_option maxHeartbeats 8000000 in
set_option maxRecDepth 100000 in
theorem calendar_days.calls (a0 : Int) (r : Int) (w : World) (h : calendar_days.f a0 = some r) :
  Calls Tryd.prog 111 #[.int .i64 a0] w fun e w' => e = .returned (.int .i64 r) ∧ Drawn0 w w' := by
 have H : ((calendar_leap.f a0).bind fun t1026 => (if t1026 = true then (some 366) else (some 365))) = some r := h
 clear h
 replace H := Option.bind_eq_some_iff.mp H
 obtain ⟨t1026, A20, H⟩ := H
 replace H : (if t1026 = true then (some 366) else (some 365)) = some r := H
 have A2 := Aside0.mk A20
 clear A20
 by_cases c3 : t1026 = true
 ·
  subst c3
  have H1 : (some 366) = some r := by rw [if_pos rfl] at H; exact H
  clear H
  have H := H1
  clear H1
  obtain rfl := Option.some.inj H
  go_enter Tryd.func111, Tryd.ntmps111
  go_wp2_with (first | ((with_reducible refine gate_callee (f := 112) rfl ?_); refine goesL_ (some 4) rfl rfl Tryd.func112 (by kernel_rfl) rfl #[.int .i64 a0] rfl (by (try simp only [List.map_toArray, List.map_cons, List.map_nil]); first | done | rfl | (simp only [List.length_drop, List.length_take]; rfl)) ?_; (with_reducible refine (calendar_leap.calls a0 true _ A2.out).mono ?_); rintro e w' ⟨rfl, ⟨nd, rfl⟩⟩; refine ⟨_, rfl, ?_⟩))
  go_ret
  exact ⟨by first | rfl | (simp; done) | (simp [*]; done), by repeat (first | exact Drawn0.refl _ | apply Drawn0.step)⟩
 ·
  replace c3 := Bool.eq_false_iff.mpr c3
  subst c3
  have H1 : (some 365) = some r := by rw [if_neg (show ¬ (false = true) by decide)] at H; exact H
  clear H
  have H := H1
  clear H1
  obtain rfl := Option.some.inj H
  go_enter Tryd.func111, Tryd.ntmps111
  go_wp2_with (first | ((with_reducible refine gate_callee (f := 112) rfl ?_); refine goesL_ (some 4) rfl rfl Tryd.func112 (by kernel_rfl) rfl #[.int .i64 a0] rfl (by (try simp only [List.map_toArray, List.map_cons, List.map_nil]); first | done | rfl | (simp only [List.length_drop, List.length_take]; rfl)) ?_; (with_reducible refine (calendar_leap.calls a0 false _ A2.out).mono ?_); rintro e w' ⟨rfl, ⟨nd, rfl⟩⟩; refine ⟨_, rfl, ?_⟩))
  go_ret
  exact ⟨by first | rfl | (simp; done) | (simp [*]; done), by repeat (first | exact Drawn0.refl _ | apply Drawn0.step)⟩

end Go.Proofs.YtbndoihcejieoaaDoor.G
