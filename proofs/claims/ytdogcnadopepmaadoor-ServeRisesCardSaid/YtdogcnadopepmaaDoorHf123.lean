/- Laid by a program of this session's (hyb.py) over the kit's print: functions and their contracts, some callees' contracts being typed by hand. -/
import Derived.Test.YtdogcnadopepmaaDoorT03
import Derived.Test.YtdogcnadopepmaaDoorH0
import Derived.Test.YtdogcnadopepmaaDoorHf148
namespace Go.Proofs.YtdogcnadopepmaaDoor.H
open Go.RowKit Go.Proofs.YtdogcnadopepmaaDoor.M Go.Proofs.YtdogcnadopepmaaDoorW.PrintWords Go.Proofs.YtdogcnadopepmaaDoorW.PrintLast Go.Proofs.YtdogcnadopepmaaDoorW.PrintMore
attribute [local go_sem] max2_int min2_int max_two min_two max_three min_three max_four min_four   -- for this text's walks alone
set_option linter.unusedVariables false
set_option linter.unusedSimpArgs false

/-! ### interchangeref03_table: function 123 -/
def interchangeref03_table.f (k : Nat) (a0 : ByteArray) : Option (ByteArray × Int × Int) := (interchangeref03_inside.f k a0).bind fun bt132 => (if bt132.2.2 = 0 then ((interchangeref03_row.f k bt132.1 1 true).bind fun bt135 => (some (bt132.2.1, bt135.1, bt135.2))) else (some ((⟨#[]⟩ : ByteArray), 0, bt132.2.2)))
theorem interchangeref03_table.mono : ∀ a0 k, LeO (interchangeref03_table.f k a0) (interchangeref03_table.f (k + 1) a0) := by
  intro a0 k
  unfold interchangeref03_table.f
  repeat' first
      | (with_reducible exact interchangeref03_inside.mono _ _)
      | (with_reducible exact interchangeref03_row.mono _ _ _ _)
      | (with_reducible exact LeO.refl _)
      | (with_reducible exact LeO.none _)
      | (with_reducible refine LeO.ite ?_ ?_)
      | (with_reducible refine LeO.bind ?_ (fun _ => ?_))
      | exact interchangeref03_inside.mono _ _
      | exact interchangeref03_row.mono _ _ _ _
      | exact LeO.none _
      | refine LeO.ite ?_ ?_
      | refine LeO.bind ?_ (fun _ => ?_)
set_option maxHeartbeats 8000000 in
set_option maxRecDepth 100000 in
theorem interchangeref03_table.calls (k : Nat) (a0 : ByteArray) (r1 : ByteArray) (r2 : Int) (r3 : Int) (w : World) (h : interchangeref03_table.f k a0 = some (r1, r2, r3)) :
    Calls Tryd.prog 123 #[.string a0] w fun e w' => e = .returned (.tuple #[.string r1, .int .i64 r2, .int .i64 r3]) ∧ Drawn0 w w' := by
  have H : ((interchangeref03_inside.f k a0).bind fun bt132 => (if bt132.2.2 = 0 then ((interchangeref03_row.f k bt132.1 1 true).bind fun bt135 => (some (bt132.2.1, bt135.1, bt135.2))) else (some ((⟨#[]⟩ : ByteArray), 0, bt132.2.2)))) = some (r1, r2, r3) := h
  clear h
  replace H := Option.bind_eq_some_iff.mp H
  obtain ⟨⟨t132, t133, t134⟩, A20, H⟩ := H
  replace H : (if t134 = 0 then ((interchangeref03_row.f k t132 1 true).bind fun bt135 => (some (t133, bt135.1, bt135.2))) else (some ((⟨#[]⟩ : ByteArray), 0, t134))) = some (r1, r2, r3) := H
  have A2 := Aside0.mk A20
  clear A20
  by_cases c3 : t134 = 0
  · rw [if_pos c3] at H
    have c3b0 : (t134 == 0) = true := beq_iff_eq.mpr c3
    have c3b1 : (t134 != 0) = false := bne_eq_false_iff_eq.mpr c3
    clear c3
    replace H := Option.bind_eq_some_iff.mp H
    obtain ⟨⟨t135, t136⟩, A40, H⟩ := H
    replace H : (some (t133, t135, t136)) = some (r1, r2, r3) := H
    have A4 := Aside0.mk A40
    clear A40
    simp only [Option.some.injEq, Prod.mk.injEq] at H
    obtain ⟨rfl, rfl, rfl⟩ := H
    go_enter Tryd.func123, Tryd.ntmps123
    go_wp2_with (first | ((with_reducible refine gate_callee (f := 148) rfl ?_); refine goesL_ (some 12) rfl rfl Tryd.func148 (by kernel_rfl) rfl #[.string a0] rfl (by (try simp only [List.map_toArray, List.map_cons, List.map_nil]); first | done | rfl | (simp only [List.length_drop, List.length_take]; rfl)) ?_; (with_reducible refine (interchangeref03_inside.calls k a0 t132 t133 t134 _ A2.out).mono ?_); rintro e w' ⟨rfl, ⟨nd, rfl⟩⟩; refine ⟨_, rfl, ?_⟩) | ((with_reducible refine gate_callee (f := 149) rfl ?_); refine goesL_ (some 21) rfl rfl Tryd.func149 (by kernel_rfl) rfl #[.string t132, .int .i64 1, .bool true] rfl (by (try simp only [List.map_toArray, List.map_cons, List.map_nil]); first | done | rfl | (simp only [List.length_drop, List.length_take]; rfl)) ?_; (with_reducible refine (interchangeref03_row.calls k t132 1 true t135 t136 _ A4.out).mono ?_); rintro e w' ⟨rfl, ⟨nd, rfl⟩⟩; refine ⟨_, rfl, ?_⟩))
    go_ret3
    exact ⟨by first | rfl | (simp; done) | (simp [*]; done), by repeat (first | exact Drawn0.refl _ | apply Drawn0.step)⟩
  · rw [if_neg c3] at H
    have c3b0 : (t134 == 0) = false := beq_eq_false_iff_ne.mpr c3
    have c3b1 : (t134 != 0) = true := bne_iff_ne.mpr c3
    simp only [Option.some.injEq, Prod.mk.injEq] at H
    obtain ⟨rfl, rfl, rfl⟩ := H
    go_enter Tryd.func123, Tryd.ntmps123
    go_wp2_with (first | ((with_reducible refine gate_callee (f := 148) rfl ?_); refine goesL_ (some 12) rfl rfl Tryd.func148 (by kernel_rfl) rfl #[.string a0] rfl (by (try simp only [List.map_toArray, List.map_cons, List.map_nil]); first | done | rfl | (simp only [List.length_drop, List.length_take]; rfl)) ?_; (with_reducible refine (interchangeref03_inside.calls k a0 t132 t133 t134 _ A2.out).mono ?_); rintro e w' ⟨rfl, ⟨nd, rfl⟩⟩; refine ⟨_, rfl, ?_⟩))
    go_ret3
    exact ⟨by first | rfl | (simp; done) | (simp [*]; done), by repeat (first | exact Drawn0.refl _ | apply Drawn0.step)⟩

end Go.Proofs.YtdogcnadopepmaaDoor.H
