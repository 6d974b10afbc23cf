-- Written by a program of this session (wip/tools/gprint.py) for this claim; Lean checks it.
import Derived.Test.YtlmcejiebobfbaaDoorGx0
import Derived.Test.YtlmcejiebobfbaaDoorGCustomsmadeWithin
namespace Go.Proofs.YtlmcejiebobfbaaDoor.G
open Go.RowKit Go.Proofs.YtlmcejiebobfbaaDoorW.PrintWords Go.Proofs.YtlmcejiebobfbaaDoorW.PrintLast Go.Proofs.YtlmcejiebobfbaaDoorW.PrintMore
attribute [local go_sem] max2_int min2_int max_two min_two max_three min_three max_four min_four   -- for this text's walks alone
set_option linter.unusedVariables false
set_option linter.unusedSimpArgs false

/-! ### customsmade_Day: function 11 -/
def customsmade_Day.f (a0 : Int) : Option (Int) := (customsmade_Within.f a0 36525).bind fun t101 => (some t101)
set_option maxHeartbeats 8000000 in
set_option maxRecDepth 100000 in
theorem customsmade_Day.calls (a0 : Int) (r : Int) (w : World) (h : customsmade_Day.f a0 = some r) :
    Calls Tryd.prog 11 #[.int .i64 a0] w fun e w' => e = .returned (.int .i64 r) ∧ Drawn0 w w' := by
  have H : ((customsmade_Within.f a0 36525).bind fun t101 => (some t101)) = some r := h
  clear h
  replace H := Option.bind_eq_some_iff.mp H
  obtain ⟨t101, A20, H⟩ := H
  replace H : (some t101) = some r := H
  have A2 := Aside0.mk A20
  clear A20
  obtain rfl := Option.some.inj H
  go_enter Tryd.func11, Tryd.ntmps11
  go_wp2_with (first | ((with_reducible refine gate_callee (f := 18) rfl ?_); refine goesL_ (some 4) rfl rfl Tryd.func18 (by kernel_rfl) rfl #[.int .i64 a0, .int .i64 36525] rfl (by (try simp only [List.map_toArray, List.map_cons, List.map_nil]); first | done | rfl | (simp only [List.length_drop, List.length_take]; rfl)) ?_; (with_reducible refine (customsmade_Within.calls a0 36525 t101 _ A2.out).mono ?_); rintro e w' ⟨rfl, ⟨nd, rfl⟩⟩; refine ⟨_, rfl, ?_⟩))
  go_ret
  exact ⟨by first | rfl | (simp; done) | (simp [*]; done), by repeat (first | exact Drawn0.refl _ | apply Drawn0.step)⟩

end Go.Proofs.YtlmcejiebobfbaaDoor.G
