/-
  The law TransitArrival holds for every input: the call returns true and each argument reads afterwards as it read before. Conditions: what the given row itself says; none of this session's.
-/
import Derived.Test.YtbndoihcejieoaaDoorRows
import Derived.Test.YtbndoihcejieoaaDoorTie
import Derived.Test.YtbndoihcejieoaaDoorCards
import Derived.WalkKit
import Derived.ProofKit
import Derived.OpenShut
import Derived.ShutString
import Derived.ChangeOld
import Derived.Below
import Derived.SizedLaws
import Derived.LaidMore
import Derived.Stop.Joined
import Derived.SevenTiedAt
import Derived.Test.YtbndoihcejieoaaDoorQCorew1
import Derived.Test.YtbndoihcejieoaaDoorQCorev1
import Derived.Test.YtbndoihcejieoaaDoorQCorea1
import Derived.Test.YtbndoihcejieoaaDoorQCorea2
import Derived.Test.YtbndoihcejieoaaDoorQCorea3
import Derived.Test.YtbndoihcejieoaaDoorQTransitArrivala1
import Derived.Test.YtbndoihcejieoaaDoorQTransitArrivala2
import Derived.Test.YtbndoihcejieoaaDoorQTransitArrivalb1
import Derived.Test.YtbndoihcejieoaaDoorQCorec1
namespace Go.Proofs.YtbndoihcejieoaaDoor.transitArrival
open Go.ChangeShapes Go.WideShapes Go.ChangeAt Go.RowKit Go.Proofs.YtbndoihcejieoaaDoor.G Go.Proofs.YtbndoihcejieoaaDoorW.PrintWords Go.Proofs.YtbndoihcejieoaaDoorW.PrintLast Go.Proofs.YtbndoihcejieoaaDoorW.PrintMore
open Go.ChangeMaps (open_string shut_string)
set_option linter.unusedVariables false
set_option linter.unusedSimpArgs false
theorem own : ownKnob Tryd.prog.godebug = none := by kernel_rfl
theorem laidOut : laidOutB Tryd.prog = true := by kernel_rfl
theorem small {n : Nat} (h : n * 8 ≤ 140737488351232) : n < 17592186044416 := by omega
set_option maxRecDepth 100000 in
theorem lifted (os : Os) (started : os.Started) (H : Type) (enc : TypeId × Value → H) :
    ReturnsInHanded {} Tryd.checked os 3 .any (fun w args => (Rows.transitArrivalSpec.pre enc Tryd.prog Tryd.f3 Rows.transitArrivalRow.domain false w args ∧ laidMetH Tryd.prog Laid.list_changes w) ∧ sizedMet enc Tryd.prog Tryd.f3 (OpenSpec.ofChange Rows.transitArrivalSpec) false w args) (Rows.transitArrivalSpec.post enc Tryd.prog Tryd.f3 false true false false) := by
  refine returnsInHanded_of_change_and (C := Tryd.checked) (X := fun w _ => laidMetH Tryd.prog Laid.list_changes w) (fun _ _ _ hh h => h.of_heap hh) own started (by kernel_rfl) Tryd.func3
    (ChangeSpec.witness_shaped (enc := enc) (C := Tryd.checked) (os := os) (X := fun w _ => laidMetH Tryd.prog Laid.list_changes w) false (World.doorLaid Tryd.prog 29 os) #[.agg #[.int .i64 0, .int .i64 0, .int .i64 0, .int .i64 0, .int .i64 0, .string ByteArray.empty, .int .i64 0, .int .i64 0, .slice none 0 0, .slice none 0 0, .slice none 0 0], .agg #[.int .i64 0, .string ByteArray.empty, .int .i64 0, .int .i64 0, .slice none 0 0], .int .i64 0, .int .i64 0, .int .i64 0, .slice none 0 0, .bool false] 8 rfl (World.shaped_of_RefB (by kernel_rfl) (by kernel_rfl)) (by kernel_rfl) (by kernel_rfl) (by kernel_rfl) (Laid.door_changes os _)) ?_
  intro W base args ds gs before hval0 hW hcnd hsz0 hL _
  have hsz : (DataW.weightsEach Tryd.prog (Tryd.f3.params.toList ++ Rows.transitArrivalSpec.plain.varTypes Tryd.prog) (ds ++ gs)).all (· ≤ reachBytes) = true := hsz0
  have hval : ∀ (j : Nat) t v, Tryd.f3.params[j]? = some t → args[j]? = some v → Value.okWide Tryd.prog W .any base t v := hval0
  have hW' := hW
  obtain ⟨p, q, hA0, hV, rfl, hfz, hnd⟩ := hW
  have hA : DataW.TrodAll enc Tryd.prog W 0 (fun _ => true) true Tryd.f3.params.toList args.toList ds p := hA0
  rw [Tryd.params3] at hA hval hsz
  obtain ⟨v0, vs0, d0, ds0, p0, q0, hargs, rfl, rfl, h0, r0⟩ := trodAll_cons hA
  obtain ⟨v1, vs1, d1, ds1, p1, q1, rfl, rfl, rfl, h1, r1⟩ := trodAll_cons r0
  obtain ⟨v2, vs2, d2, ds2, p2, q2, rfl, rfl, rfl, h2, r2⟩ := trodAll_cons r1
  obtain ⟨v3, vs3, d3, ds3, p3, q3, rfl, rfl, rfl, h3, r3⟩ := trodAll_cons r2
  obtain ⟨v4, vs4, d4, ds4, p4, q4, rfl, rfl, rfl, h4, r4⟩ := trodAll_cons r3
  obtain ⟨v5, vs5, d5, ds5, p5, q5, rfl, rfl, rfl, h5, r5⟩ := trodAll_cons r4
  obtain ⟨v6, vs6, d6, ds6, p6, q6, rfl, rfl, rfl, h6, r6⟩ := trodAll_cons r5
  obtain ⟨rfl, rfl, rfl⟩ := trodAll_nil r6
  obtain rfl : args = #[v0, v1, v2, v3, v4, v5, v6] := by cases args; simp_all
  obtain ⟨rfl, rfl⟩ := trodVars_none hV
  have k0 := h0
  have lt0 : ∀ x ∈ p0, x.block < W.heap.size := by obtain ⟨m, hm⟩ := k0; exact DataW.trod_lt m _ _ _ hm
  obtain ⟨C0, rfl, _⟩ := okWide_struct Tryd.underlying27 (hval 0 27 v0 rfl rfl)
  obtain ⟨m0, f0⟩ := h0
  obtain ⟨a0_0, a0_1, a0_2, a0_3, y4, y5, y6, y7, y8, y9, y10, z4, z5, z6, m, D0, D1, D2, D3, hcs0, t4, t5, t6, hd0⟩ := Pure.read27 f0
  obtain ⟨a0_4, a0_5, a0_6, a0_7, y8', u8, m', E0, E1, E2, E3, hcl0, t8, hdl0⟩ := Pure.read24 t4
  cases hcl0
  obtain rfl : C0 = #[.int .i64 a0_0, .int .i64 a0_1, .int .i64 a0_2, .int .i64 a0_3, .int .i64 a0_4, .string a0_5, .int .i64 a0_6, .int .i64 a0_7, y8, y9, y10] := Array.ext' hcs0
  dsimp only at hd0
  obtain ⟨l0_8, hr0_8, hl0_8⟩ := Pure.rows22 t8 (fun z hz => of_decide_eq_true (List.all_eq_true.1 hsz z (DataW.weights_mem_each (j := 0) (t := 27) rfl rfl z (by rw [hd0]; simp only [DataW.weights, Tryd.underlying27, List.map_cons, List.map_nil, DataW.weightsEach, List.mem_append]; rw [hdl0]; simp only [DataW.weights, Tryd.underlying24, List.map_cons, List.map_nil, DataW.weightsEach, List.mem_append]; simp [hz]))))
  obtain ⟨l0_9, hr0_9, hl0_9⟩ := Pure.rows25 t5 (fun z hz => of_decide_eq_true (List.all_eq_true.1 hsz z (DataW.weights_mem_each (j := 0) (t := 27) rfl rfl z (by rw [hd0]; simp only [DataW.weights, Tryd.underlying27, List.map_cons, List.map_nil, DataW.weightsEach, List.mem_append]; simp [hz]))))
  obtain ⟨l0_10, hr0_10, hl0_10⟩ := Pure.rows25 t6 (fun z hz => of_decide_eq_true (List.all_eq_true.1 hsz z (DataW.weights_mem_each (j := 0) (t := 27) rfl rfl z (by rw [hd0]; simp only [DataW.weights, Tryd.underlying27, List.map_cons, List.map_nil, DataW.weightsEach, List.mem_append]; simp [hz]))))
  have k1 := h1
  have lt1 : ∀ x ∈ p1, x.block < W.heap.size := by obtain ⟨m, hm⟩ := k1; exact DataW.trod_lt m _ _ _ hm
  obtain ⟨C1, rfl, _⟩ := okWide_struct Tryd.underlying24 (hval 1 24 v1 rfl rfl)
  obtain ⟨m1, f1⟩ := h1
  obtain ⟨a1_0, a1_1, a1_2, a1_3, x4, z4', m2, D0', D1', D2', D3', hcs1, t4', hd1⟩ := Pure.read24 f1
  obtain rfl : C1 = #[.int .i64 a1_0, .string a1_1, .int .i64 a1_2, .int .i64 a1_3, x4] := Array.ext' hcs1
  dsimp only at hd1
  obtain ⟨l1_4, hr1_4, hl1_4⟩ := Pure.rows22 t4' (fun z hz => of_decide_eq_true (List.all_eq_true.1 hsz z (DataW.weights_mem_each (j := 1) (t := 24) rfl rfl z (by rw [hd1]; simp only [DataW.weights, Tryd.underlying24, List.map_cons, List.map_nil, DataW.weightsEach, List.mem_append]; simp [hz]))))
  obtain ⟨a2, rfl, rfl, rfl, w2⟩ := open_int Tryd.underlying3 (hval 2 3 v2 rfl rfl) h2
  obtain ⟨a3, rfl, rfl, rfl, w3⟩ := open_int Tryd.underlying3 (hval 3 3 v3 rfl rfl) h3
  obtain ⟨a4, rfl, rfl, rfl, w4⟩ := open_int Tryd.underlying3 (hval 4 3 v4 rfl rfl) h4
  have k5 := h5
  have lt5 : ∀ x ∈ p5, x.block < W.heap.size := by obtain ⟨m, hm⟩ := k5; exact DataW.trod_lt m _ _ _ hm
  obtain ⟨A5, n5, c5, rfl⟩ := okWide_slice Tryd.underlying25 (hval 5 25 v5 rfl rfl)
  obtain ⟨m5, f5⟩ := h5
  obtain ⟨l5, ⟨B5, e5, hv5, hc5, hr5⟩, hl5⟩ := Pure.rows25 (v := .slice A5 n5 c5) f5 (fun z hz => of_decide_eq_true (List.all_eq_true.1 hsz z (DataW.weights_mem_each (j := 5) (t := 25) rfl rfl z hz)))
  cases hv5
  obtain ⟨a6, rfl, rfl, rfl⟩ := open_bool Tryd.underlying4 (hval 6 4 v6 rfl rfl) h6
  clear hA0 hval0 hsz0 hsz
  have hGs := Laid.of_changes hL
  have hG0 := hGs
  refine (G.arrival_calls ⟨a0_0, a0_1, a0_2, a0_3, a0_4, a0_5, a0_6, a0_7, l0_8, l0_9, l0_10⟩ y8 y9 y10 a1_0 a1_1 a1_2 a1_3 x4 l1_4 a2 a3 a4 _ _ l5 a6 W ⟨hr0_8, hr0_9, hr0_10⟩ ⟨by show l0_8.length ≤ _; omega, by show l0_9.length ≤ _; omega, by show l0_10.length ≤ _; omega⟩ hr1_4 (by omega) ⟨_, _, rfl, hc5, hr5⟩ (by omega) hG0).mono fun e W' ⟨he, bel⟩ => ?_
  subst he
  exact ⟨_, rfl, _, _, _, [], _, [], hW', trodAll_mk1 (shut_bool Tryd.underlying4 _), (trodAll_cons_mk (Below.trod laidOut (by kernel_rfl) (of_decide_eq_true (by kernel_rfl)) k0 bel lt0) (trodAll_cons_mk (Below.trod laidOut (by kernel_rfl) (of_decide_eq_true (by kernel_rfl)) k1 bel lt1) (trodAll_cons_mk (shut_int Tryd.underlying3 w2) (trodAll_cons_mk (shut_int Tryd.underlying3 w3) (trodAll_cons_mk (shut_int Tryd.underlying3 w4) (trodAll_cons_mk (Below.trod laidOut (by kernel_rfl) (of_decide_eq_true (by kernel_rfl)) k5 bel lt5) (trodAll_cons_mk (shut_bool Tryd.underlying4 _) trodAll_mk0))))))), rfl, bel.frame _, fun h => by cases h⟩
theorem over : Rows.transitArrivalRow.holds Tryd.pinned (OpenSpec.ofChange Rows.transitArrivalSpec) :=
  OpenClaim.holds_of_wide 3 Tryd.f3 rfl rfl rfl rfl rfl rfl rfl ⟨rfl, rfl, rfl, rfl, rfl⟩ rfl rfl rfl rfl rfl (by kernel_rfl) Tryd.func3 (by kernel_rfl)
    (of_decide_eq_true (by kernel_rfl)) (by unfold Func.isWrapper; first | (rw [if_pos (by decide +kernel)]; kernel_rfl) | (rw [if_neg (by decide +kernel)]; exact ⟨rfl, rfl⟩))
    (fun os started H enc _ => lifted os started H enc)
theorem proved : Rows.TransitArrivalSaid := over
end Go.Proofs.YtbndoihcejieoaaDoor.transitArrival
namespace Go.Proofs.YtbndoihcejieoaaDoor
/-- The row. -/
theorem transitArrival_holds : Rows.TransitArrivalSaid := transitArrival.proved
open Go
/-- The tied card. -/
theorem transitArrival_card : Rows.TransitArrivalCardSaid :=
  Claim7.holds_tied_plain_at .later [] [.data] true (true, "d343da5cd7a1261890156307d7a9e62f44eed23e7391c30dd9a5bf23ca3d943d") false
    transitArrival_holds (fun _ h => by cases h) (by kernel_rfl) (fun _ h => by cases h) transitArrival_row_tie rfl ⟨rfl, rfl⟩ (by kernel_rfl) rfl
    (fun f fn hf hfn => by
      obtain rfl : f = 3 := Option.some.inj ((show Tryd.prog.funcNamed "customs/customslaw35.TransitArrival" = some 3 by kernel_rfl).symm.trans hf) |>.symm
      obtain rfl : fn = Tryd.f3 := (Option.some.inj (Tryd.func3.symm.trans hfn)).symm
      exact ⟨by kernel_rfl, fun j t ht => by
        rw [Tryd.params3] at ht
        have hm : t ∈ [27, 24, 3, 3, 3, 25, 4] := by simpa using Array.mem_of_getElem? ht
        have hall : ([27, 24, 3, 3, 3, 25, 4].all fun u => !Tryd.prog.wantsStandIn u) = true := by kernel_rfl
        exact (show Tryd.prog.wantsStandIn t = false by simpa using List.all_eq_true.1 hall t hm)⟩)
    (by kernel_rfl)
#print axioms transitArrival_card
end Go.Proofs.YtbndoihcejieoaaDoor

