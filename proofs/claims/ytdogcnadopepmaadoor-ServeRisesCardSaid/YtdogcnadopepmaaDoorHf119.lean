/- Laid by a program of this session's (hyb.py) over the kit's print: functions and their contracts, some callees' contracts being typed by hand. -/
import Derived.Test.YtdogcnadopepmaaDoorH0
import Derived.Test.YtdogcnadopepmaaDoorHf123
namespace Go.Proofs.YtdogcnadopepmaaDoor.H
open Go.RowKit Go.Proofs.YtdogcnadopepmaaDoorW.PrintWords Go.Proofs.YtdogcnadopepmaaDoorW.PrintLast Go.Proofs.YtdogcnadopepmaaDoorW.PrintMore
attribute [local go_sem] max2_int min2_int max_two min_two max_three min_three max_four min_four   -- for this text's walks alone
set_option linter.unusedVariables false
set_option linter.unusedSimpArgs false

/-! ### interchangeref03_Deep: function 119 -/
def interchangeref03_Deep.f (k : Nat) (a0 : ByteArray) : Option (Int × Int) := (interchangeref03_table.f k a0).bind fun bt137 => (if bt137.2.2 = 0 then (if (bt137.1.size : Int) > 0 then (some (0, 3)) else (some (bt137.2.1, 0))) else (some (0, bt137.2.2)))
theorem interchangeref03_Deep.mono : ∀ a0 k, LeO (interchangeref03_Deep.f k a0) (interchangeref03_Deep.f (k + 1) a0) := by
  intro a0 k
  unfold interchangeref03_Deep.f
  repeat' first
      | (with_reducible exact interchangeref03_table.mono _ _)
      | (with_reducible exact LeO.refl _)
      | (with_reducible exact LeO.none _)
      | (with_reducible refine LeO.ite ?_ ?_)
      | (with_reducible refine LeO.bind ?_ (fun _ => ?_))
      | exact interchangeref03_table.mono _ _
      | exact LeO.none _
      | refine LeO.ite ?_ ?_
      | refine LeO.bind ?_ (fun _ => ?_)
set_option maxHeartbeats 8000000 in
set_option maxRecDepth 100000 in
theorem interchangeref03_Deep.calls (k : Nat) (a0 : ByteArray) (r1 : Int) (r2 : Int) (w : World) (h : interchangeref03_Deep.f k a0 = some (r1, r2)) :
    Calls Tryd.prog 119 #[.string a0] w fun e w' => e = .returned (.tuple #[.int .i64 r1, .int .i64 r2]) ∧ Drawn0 w w' := by
  have H : ((interchangeref03_table.f k a0).bind fun bt137 => (if bt137.2.2 = 0 then (if (bt137.1.size : Int) > 0 then (some (0, 3)) else (some (bt137.2.1, 0))) else (some (0, bt137.2.2)))) = some (r1, r2) := h
  clear h
  replace H := Option.bind_eq_some_iff.mp H
  obtain ⟨⟨t137, t138, t139⟩, A20, H⟩ := H
  replace H : (if t139 = 0 then (if (t137.size : Int) > 0 then (some (0, 3)) else (some (t138, 0))) else (some (0, t139))) = some (r1, r2) := H
  have A2 := Aside0.mk A20
  clear A20
  by_cases c3 : t139 = 0
  · rw [if_pos c3] at H
    have c3b0 : (t139 == 0) = true := beq_iff_eq.mpr c3
    have c3b1 : (t139 != 0) = false := bne_eq_false_iff_eq.mpr c3
    clear c3
    by_cases c4 : (t137.size : Int) > 0
    · rw [if_pos c4] at H
      have c4b0 : decide (0 < (t137.size : Int)) = true := decide_eq_true c4
      have c4b1 : decide (0 < t137.size) = true := decide_eq_true (by omega)
      clear c4
      simp only [Option.some.injEq, Prod.mk.injEq] at H
      obtain ⟨rfl, rfl⟩ := H
      go_enter Tryd.func119, Tryd.ntmps119
      go_wp2_with (first | ((with_reducible refine gate_callee (f := 123) rfl ?_); refine goesL_ (some 9) rfl rfl Tryd.func123 (by kernel_rfl) rfl #[.string a0] rfl (by (try simp only [List.map_toArray, List.map_cons, List.map_nil]); first | done | rfl | (simp only [List.length_drop, List.length_take]; rfl)) ?_; (with_reducible refine (interchangeref03_table.calls k a0 t137 t138 t139 _ A2.out).mono ?_); rintro e w' ⟨rfl, ⟨nd, rfl⟩⟩; refine ⟨_, rfl, ?_⟩))
      go_ret2
      exact ⟨by first | rfl | (simp; done) | (simp [*]; done), by repeat (first | exact Drawn0.refl _ | apply Drawn0.step)⟩
    · rw [if_neg c4] at H
      have c4b0 : decide (0 < (t137.size : Int)) = false := decide_eq_false c4
      have c4b1 : decide (0 < t137.size) = false := decide_eq_false (by omega)
      clear c4
      simp only [Option.some.injEq, Prod.mk.injEq] at H
      obtain ⟨rfl, rfl⟩ := H
      go_enter Tryd.func119, Tryd.ntmps119
      go_wp2_with (first | ((with_reducible refine gate_callee (f := 123) rfl ?_); refine goesL_ (some 9) rfl rfl Tryd.func123 (by kernel_rfl) rfl #[.string a0] rfl (by (try simp only [List.map_toArray, List.map_cons, List.map_nil]); first | done | rfl | (simp only [List.length_drop, List.length_take]; rfl)) ?_; (with_reducible refine (interchangeref03_table.calls k a0 t137 t138 t139 _ A2.out).mono ?_); rintro e w' ⟨rfl, ⟨nd, rfl⟩⟩; refine ⟨_, rfl, ?_⟩))
      go_ret2
      exact ⟨by first | rfl | (simp; done) | (simp [*]; done), by repeat (first | exact Drawn0.refl _ | apply Drawn0.step)⟩
  · rw [if_neg c3] at H
    have c3b0 : (t139 == 0) = false := beq_eq_false_iff_ne.mpr c3
    have c3b1 : (t139 != 0) = true := bne_iff_ne.mpr c3
    simp only [Option.some.injEq, Prod.mk.injEq] at H
    obtain ⟨rfl, rfl⟩ := H
    go_enter Tryd.func119, Tryd.ntmps119
    go_wp2_with (first | ((with_reducible refine gate_callee (f := 123) rfl ?_); refine goesL_ (some 9) rfl rfl Tryd.func123 (by kernel_rfl) rfl #[.string a0] rfl (by (try simp only [List.map_toArray, List.map_cons, List.map_nil]); first | done | rfl | (simp only [List.length_drop, List.length_take]; rfl)) ?_; (with_reducible refine (interchangeref03_table.calls k a0 t137 t138 t139 _ A2.out).mono ?_); rintro e w' ⟨rfl, ⟨nd, rfl⟩⟩; refine ⟨_, rfl, ?_⟩))
    go_ret2
    exact ⟨by first | rfl | (simp; done) | (simp [*]; done), by repeat (first | exact Drawn0.refl _ | apply Drawn0.step)⟩

end Go.Proofs.YtdogcnadopepmaaDoor.H
