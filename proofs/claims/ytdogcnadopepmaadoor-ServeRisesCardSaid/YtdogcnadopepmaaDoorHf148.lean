/- Laid by a program of this session's (hyb.py) over the kit's print: functions and their contracts, some callees' contracts being typed by hand. -/
import Derived.Test.YtdogcnadopepmaaDoorH0
import Derived.Test.YtdogcnadopepmaaDoorHf88
namespace Go.Proofs.YtdogcnadopepmaaDoor.H
open Go.RowKit Go.Proofs.YtdogcnadopepmaaDoorW.PrintWords Go.Proofs.YtdogcnadopepmaaDoorW.PrintLast Go.Proofs.YtdogcnadopepmaaDoorW.PrintMore
attribute [local go_sem] max2_int min2_int max_two min_two max_three min_three max_four min_four   -- for this text's walks alone
set_option linter.unusedVariables false
set_option linter.unusedSimpArgs false

/-! ### interchangeref03_inside: function 148 -/
def interchangeref03_inside.f (k : Nat) (a0 : ByteArray) : Option (ByteArray × ByteArray × Int) := (interchangeref01_Take.f k a0 4).bind fun bt129 => (if bt129.2.2 = 0 then (if bt129.1 > (IntKind.u64.wrap ((bt129.2.1.size : Int))) then (some ((⟨#[]⟩ : ByteArray), (⟨#[]⟩ : ByteArray), 2)) else (if 0 ≤ bt129.1 then (if bt129.1 ≤ (bt129.2.1.size : Int) then (some (bt129.2.1.extract 0 (bt129.1 : Int).toNat, bt129.2.1.extract (bt129.1 : Int).toNat bt129.2.1.size, 0)) else (none)) else (none))) else (some ((⟨#[]⟩ : ByteArray), (⟨#[]⟩ : ByteArray), 2)))
theorem interchangeref03_inside.mono : ∀ a0 k, LeO (interchangeref03_inside.f k a0) (interchangeref03_inside.f (k + 1) a0) := by
  intro a0 k
  unfold interchangeref03_inside.f
  repeat' first
      | (with_reducible exact interchangeref01_Take.mono _ _ _)
      | (with_reducible exact LeO.refl _)
      | (with_reducible exact LeO.none _)
      | (with_reducible refine LeO.ite ?_ ?_)
      | (with_reducible refine LeO.bind ?_ (fun _ => ?_))
      | exact interchangeref01_Take.mono _ _ _
      | exact LeO.none _
      | refine LeO.ite ?_ ?_
      | refine LeO.bind ?_ (fun _ => ?_)
set_option maxHeartbeats 8000000 in
set_option maxRecDepth 100000 in
theorem interchangeref03_inside.calls (k : Nat) (a0 : ByteArray) (r1 : ByteArray) (r2 : ByteArray) (r3 : Int) (w : World) (h : interchangeref03_inside.f k a0 = some (r1, r2, r3)) :
    Calls Tryd.prog 148 #[.string a0] w fun e w' => e = .returned (.tuple #[.string r1, .string r2, .int .i64 r3]) ∧ Drawn0 w w' := by
  have H : ((interchangeref01_Take.f k a0 4).bind fun bt129 => (if bt129.2.2 = 0 then (if bt129.1 > (IntKind.u64.wrap ((bt129.2.1.size : Int))) then (some ((⟨#[]⟩ : ByteArray), (⟨#[]⟩ : ByteArray), 2)) else (if 0 ≤ bt129.1 then (if bt129.1 ≤ (bt129.2.1.size : Int) then (some (bt129.2.1.extract 0 (bt129.1 : Int).toNat, bt129.2.1.extract (bt129.1 : Int).toNat bt129.2.1.size, 0)) else (none)) else (none))) else (some ((⟨#[]⟩ : ByteArray), (⟨#[]⟩ : ByteArray), 2)))) = some (r1, r2, r3) := h
  clear h
  replace H := Option.bind_eq_some_iff.mp H
  obtain ⟨⟨t129, t130, t131⟩, A20, H⟩ := H
  replace H : (if t131 = 0 then (if t129 > (IntKind.u64.wrap ((t130.size : Int))) then (some ((⟨#[]⟩ : ByteArray), (⟨#[]⟩ : ByteArray), 2)) else (if 0 ≤ t129 then (if t129 ≤ (t130.size : Int) then (some (t130.extract 0 (t129 : Int).toNat, t130.extract (t129 : Int).toNat t130.size, 0)) else (none)) else (none))) else (some ((⟨#[]⟩ : ByteArray), (⟨#[]⟩ : ByteArray), 2))) = some (r1, r2, r3) := H
  have A2 := Aside0.mk A20
  clear A20
  by_cases c3 : t131 = 0
  · rw [if_pos c3] at H
    have c3b0 : (t131 == 0) = true := beq_iff_eq.mpr c3
    have c3b1 : (t131 != 0) = false := bne_eq_false_iff_eq.mpr c3
    clear c3
    by_cases c4 : t129 > (IntKind.u64.wrap ((t130.size : Int)))
    · rw [if_pos c4] at H
      have c4b0 : decide ((IntKind.u64.wrap ((t130.size : Int))) < t129) = true := decide_eq_true c4
      clear c4
      simp only [Option.some.injEq, Prod.mk.injEq] at H
      obtain ⟨rfl, rfl, rfl⟩ := H
      go_enter Tryd.func148, Tryd.ntmps148
      go_wp2_with (first | (go_at_call 88; (with_reducible refine (interchangeref01_Take.calls k a0 4 t129 t130 t131 _ A2.out).mono ?_); rintro e w' ⟨rfl, ⟨nd, rfl⟩⟩; (try first | exact ⟨rfl, _, World.drewN_drewN _ _ _⟩ | exact ⟨rfl, _, Eq.trans (World.drewN_drewN _ _ _) (congrArg (World.drewN _) (Nat.add_assoc _ _ _))⟩)))
      repeat (go_quiet (first | (go_at_call 88; (with_reducible refine (interchangeref01_Take.calls k a0 4 t129 t130 t131 _ A2.out).mono ?_); rintro e w' ⟨rfl, ⟨nd, rfl⟩⟩; (try first | exact ⟨rfl, _, World.drewN_drewN _ _ _⟩ | exact ⟨rfl, _, Eq.trans (World.drewN_drewN _ _ _) (congrArg (World.drewN _) (Nat.add_assoc _ _ _))⟩))); try go_wp2_with (first | (go_at_call 88; (with_reducible refine (interchangeref01_Take.calls k a0 4 t129 t130 t131 _ A2.out).mono ?_); rintro e w' ⟨rfl, ⟨nd, rfl⟩⟩; (try first | exact ⟨rfl, _, World.drewN_drewN _ _ _⟩ | exact ⟨rfl, _, Eq.trans (World.drewN_drewN _ _ _) (congrArg (World.drewN _) (Nat.add_assoc _ _ _))⟩))))
      go_ret3
      exact ⟨by first | rfl | (simp; done) | (simp [*]; done), by repeat (first | exact Drawn0.refl _ | apply Drawn0.step)⟩
    · rw [if_neg c4] at H
      have c4b0 : decide ((IntKind.u64.wrap ((t130.size : Int))) < t129) = false := decide_eq_false c4
      clear c4
      by_cases c5 : 0 ≤ t129
      · rw [if_pos c5] at H
        have c5b0 := eq_true c5
        have c5b1 : decide (0 ≤ t129) = true := decide_eq_true c5
        clear c5
        by_cases c6 : t129 ≤ (t130.size : Int)
        · rw [if_pos c6] at H
          have c6b0 := eq_true c6
          have c6b1 : decide (t129 ≤ (t130.size : Int)) = true := decide_eq_true c6
          clear c6
          have c7b0 := eq_true (of_decide_eq_true (by first | (with_reducible assumption) | assumption) : 0 ≤ t129)
          have c8b0 := eq_true (of_decide_eq_true (by first | (with_reducible assumption) | assumption) : t129 ≤ (t130.size : Int))
          simp only [Option.some.injEq, Prod.mk.injEq] at H
          obtain ⟨rfl, rfl, rfl⟩ := H
          go_enter Tryd.func148, Tryd.ntmps148
          go_wp2_with (first | (go_at_call 88; (with_reducible refine (interchangeref01_Take.calls k a0 4 t129 t130 t131 _ A2.out).mono ?_); rintro e w' ⟨rfl, ⟨nd, rfl⟩⟩; (try first | exact ⟨rfl, _, World.drewN_drewN _ _ _⟩ | exact ⟨rfl, _, Eq.trans (World.drewN_drewN _ _ _) (congrArg (World.drewN _) (Nat.add_assoc _ _ _))⟩)))
          repeat (go_quiet (first | (go_at_call 88; (with_reducible refine (interchangeref01_Take.calls k a0 4 t129 t130 t131 _ A2.out).mono ?_); rintro e w' ⟨rfl, ⟨nd, rfl⟩⟩; (try first | exact ⟨rfl, _, World.drewN_drewN _ _ _⟩ | exact ⟨rfl, _, Eq.trans (World.drewN_drewN _ _ _) (congrArg (World.drewN _) (Nat.add_assoc _ _ _))⟩))); try go_wp2_with (first | (go_at_call 88; (with_reducible refine (interchangeref01_Take.calls k a0 4 t129 t130 t131 _ A2.out).mono ?_); rintro e w' ⟨rfl, ⟨nd, rfl⟩⟩; (try first | exact ⟨rfl, _, World.drewN_drewN _ _ _⟩ | exact ⟨rfl, _, Eq.trans (World.drewN_drewN _ _ _) (congrArg (World.drewN _) (Nat.add_assoc _ _ _))⟩))))
          go_ret3
          exact ⟨by first | rfl | (simp; done) | (simp [*]; done), by repeat (first | exact Drawn0.refl _ | apply Drawn0.step)⟩
        · rw [if_neg c6] at H
          exact absurd H (by simp)
      · rw [if_neg c5] at H
        exact absurd H (by simp)
  · rw [if_neg c3] at H
    have c3b0 : (t131 == 0) = false := beq_eq_false_iff_ne.mpr c3
    have c3b1 : (t131 != 0) = true := bne_iff_ne.mpr c3
    simp only [Option.some.injEq, Prod.mk.injEq] at H
    obtain ⟨rfl, rfl, rfl⟩ := H
    go_enter Tryd.func148, Tryd.ntmps148
    go_wp2_with (first | (go_at_call 88; (with_reducible refine (interchangeref01_Take.calls k a0 4 t129 t130 t131 _ A2.out).mono ?_); rintro e w' ⟨rfl, ⟨nd, rfl⟩⟩; (try first | exact ⟨rfl, _, World.drewN_drewN _ _ _⟩ | exact ⟨rfl, _, Eq.trans (World.drewN_drewN _ _ _) (congrArg (World.drewN _) (Nat.add_assoc _ _ _))⟩)))
    repeat (go_quiet (first | (go_at_call 88; (with_reducible refine (interchangeref01_Take.calls k a0 4 t129 t130 t131 _ A2.out).mono ?_); rintro e w' ⟨rfl, ⟨nd, rfl⟩⟩; (try first | exact ⟨rfl, _, World.drewN_drewN _ _ _⟩ | exact ⟨rfl, _, Eq.trans (World.drewN_drewN _ _ _) (congrArg (World.drewN _) (Nat.add_assoc _ _ _))⟩))); try go_wp2_with (first | (go_at_call 88; (with_reducible refine (interchangeref01_Take.calls k a0 4 t129 t130 t131 _ A2.out).mono ?_); rintro e w' ⟨rfl, ⟨nd, rfl⟩⟩; (try first | exact ⟨rfl, _, World.drewN_drewN _ _ _⟩ | exact ⟨rfl, _, Eq.trans (World.drewN_drewN _ _ _) (congrArg (World.drewN _) (Nat.add_assoc _ _ _))⟩))))
    go_ret3
    exact ⟨by first | rfl | (simp; done) | (simp [*]; done), by repeat (first | exact Drawn0.refl _ | apply Drawn0.step)⟩

end Go.Proofs.YtdogcnadopepmaaDoor.H
