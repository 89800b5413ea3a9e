/- Laid by a program of this session's (hyb.py) over the kit's print: functions and their contracts, some callees' contracts being typed by hand. -/
import Derived.Test.YtdogcnadopepmaaDoorH0
namespace Go.Proofs.YtdogcnadopepmaaDoor.H
open Go.RowKit Go.Proofs.YtdogcnadopepmaaDoorW.PrintWords Go.Proofs.YtdogcnadopepmaaDoorW.PrintLast Go.Proofs.YtdogcnadopepmaaDoorW.PrintMore
attribute [local go_sem] max2_int min2_int max_two min_two max_three min_three max_four min_four   -- for this text's walks alone
set_option linter.unusedVariables false
set_option linter.unusedSimpArgs false

/-! ### interchangeref02_TakeShort: function 89 -/
def interchangeref02_TakeShort.f (a0 : ByteArray) : Option (ByteArray × ByteArray × Int) := if (a0.size : Int) < 1 then (some ((⟨#[]⟩ : ByteArray), (⟨#[]⟩ : ByteArray), 2)) else (if 0 < (a0.size : Int) then (if (a0.size : Int) < (wrap64 (1 + (wrap64 (bt a0 0)))) then (some ((⟨#[]⟩ : ByteArray), (⟨#[]⟩ : ByteArray), 2)) else (if 1 ≤ (wrap64 (1 + (wrap64 (bt a0 0)))) then (if (wrap64 (1 + (wrap64 (bt a0 0)))) ≤ (a0.size : Int) then (if 0 ≤ (wrap64 (1 + (wrap64 (bt a0 0)))) then (some (a0.extract 1 ((wrap64 (1 + (wrap64 (bt a0 0)))) : Int).toNat, a0.extract ((wrap64 (1 + (wrap64 (bt a0 0)))) : Int).toNat a0.size, 0)) else (none)) else (none)) else (none))) else (none))
set_option maxHeartbeats 8000000 in
set_option maxRecDepth 100000 in
theorem interchangeref02_TakeShort.calls (a0 : ByteArray) (r1 : ByteArray) (r2 : ByteArray) (r3 : Int) (w : World) (h : interchangeref02_TakeShort.f a0 = some (r1, r2, r3)) :
    Calls Tryd.prog 89 #[.string a0] w fun e w' => e = .returned (.tuple #[.string r1, .string r2, .int .i64 r3]) ∧ Drawn0 w w' := by
  have H : (if (a0.size : Int) < 1 then (some ((⟨#[]⟩ : ByteArray), (⟨#[]⟩ : ByteArray), 2)) else (if 0 < (a0.size : Int) then (if (a0.size : Int) < (wrap64 (1 + (wrap64 (bt a0 0)))) then (some ((⟨#[]⟩ : ByteArray), (⟨#[]⟩ : ByteArray), 2)) else (if 1 ≤ (wrap64 (1 + (wrap64 (bt a0 0)))) then (if (wrap64 (1 + (wrap64 (bt a0 0)))) ≤ (a0.size : Int) then (if 0 ≤ (wrap64 (1 + (wrap64 (bt a0 0)))) then (some (a0.extract 1 ((wrap64 (1 + (wrap64 (bt a0 0)))) : Int).toNat, a0.extract ((wrap64 (1 + (wrap64 (bt a0 0)))) : Int).toNat a0.size, 0)) else (none)) else (none)) else (none))) else (none))) = some (r1, r2, r3) := h
  clear h
  by_cases c2 : (a0.size : Int) < 1
  · rw [if_pos c2] at H
    have c2b0 : decide ((a0.size : Int) < 1) = true := decide_eq_true c2
    have c2b1 : decide (a0.size < 1) = true := decide_eq_true (by omega)
    clear c2
    simp only [Option.some.injEq, Prod.mk.injEq] at H
    obtain ⟨rfl, rfl, rfl⟩ := H
    go_enter Tryd.func89, Tryd.ntmps89
    go_wp2
    repeat (go_quiet (fail); try go_wp2)
    go_ret3
    exact ⟨by first | rfl | (simp; done) | (simp [*]; done), by repeat (first | exact Drawn0.refl _ | apply Drawn0.step)⟩
  · rw [if_neg c2] at H
    have c2b0 : decide ((a0.size : Int) < 1) = false := decide_eq_false c2
    have c2b1 : decide (a0.size < 1) = false := decide_eq_false (by omega)
    clear c2
    by_cases c3 : 0 < (a0.size : Int)
    · rw [if_pos c3] at H
      have c3b0 : decide (0 < (a0.size : Int)) = true := decide_eq_true c3
      have c3b1 : decide (0 < a0.size) = true := decide_eq_true (by omega)
      clear c3
      by_cases c5 : (a0.size : Int) < (wrap64 (1 + (wrap64 (bt a0 0))))
      · rw [if_pos c5] at H
        have c5b0 : decide ((a0.size : Int) < (wrap64 (1 + (wrap64 (bt a0 0))))) = true := decide_eq_true c5
        clear c5
        simp only [Option.some.injEq, Prod.mk.injEq] at H
        obtain ⟨rfl, rfl, rfl⟩ := H
        have p4 : 0 ≤ (0 : Int) := (by omega)
        have q4 : 0 < a0.size := (by have : (0 : Int) < (a0.size : Int) := of_decide_eq_true (by first | (with_reducible assumption) | assumption); omega)
        have hx4 : ∀ h : 0 < a0.size, ((a0[0]'h).toNat : Int) = bt a0 0 := bt_at a0 0
        clear p4
        have qi4 : (0 < (a0.size : Int)) = True := eq_true (of_decide_eq_true (by first | (with_reducible assumption) | assumption))
        replace q4 := eq_true q4
        go_enter Tryd.func89, Tryd.ntmps89
        go_wp2
        repeat (go_quiet (fail); try go_wp2)
        go_ret3
        exact ⟨by first | rfl | (simp; done) | (simp [*]; done), by repeat (first | exact Drawn0.refl _ | apply Drawn0.step)⟩
      · rw [if_neg c5] at H
        have c5b0 : decide ((a0.size : Int) < (wrap64 (1 + (wrap64 (bt a0 0))))) = false := decide_eq_false c5
        clear c5
        by_cases c7 : 1 ≤ (wrap64 (1 + (wrap64 (bt a0 0))))
        · rw [if_pos c7] at H
          have c7b0 := eq_true c7
          have c7b1 : decide (1 ≤ (wrap64 (1 + (wrap64 (bt a0 0))))) = true := decide_eq_true c7
          by_cases c8 : (wrap64 (1 + (wrap64 (bt a0 0)))) ≤ (a0.size : Int)
          · rw [if_pos c8] at H
            have c8b0 := eq_true c8
            have c8b1 : decide ((wrap64 (1 + (wrap64 (bt a0 0)))) ≤ (a0.size : Int)) = true := decide_eq_true c8
            obtain ⟨ji9, hji9⟩ : ∃ j_ : Int, (wrap64 (1 + (wrap64 (bt a0 0)))) = j_ := ⟨_, rfl⟩
            replace H : (if 0 ≤ (ji9) then (some (a0.extract 1 ((ji9) : Int).toNat, a0.extract ((ji9) : Int).toNat a0.size, 0)) else (none)) = some (r1, r2, r3) := by first | (rw [hji9] at H; exact H) | (simp only [hji9] at H ⊢; exact H)
            (try rw [hji9] at c5b0)
            (try rw [hji9] at c7b0)
            (try rw [hji9] at c7b1)
            (try rw [hji9] at c7)
            (try rw [hji9] at c8b0)
            (try rw [hji9] at c8b1)
            (try rw [hji9] at c8)
            have hji9w : (IntKind.i64.wrap (1 + (wrap64 (bt a0 0)))) = ji9 := (i64_w _).trans hji9
            by_cases c10 : 0 ≤ (ji9)
            · rw [if_pos c10] at H
              have c10b0 := eq_true c10
              have c10b1 : decide (0 ≤ (ji9)) = true := decide_eq_true c10
              clear c10
              have c11b0 := eq_true (of_decide_eq_true (by first | (with_reducible assumption) | assumption) : (ji9) ≤ (a0.size : Int))
              simp only [Option.some.injEq, Prod.mk.injEq] at H
              obtain ⟨rfl, rfl, rfl⟩ := H
              have p4 : 0 ≤ (0 : Int) := (by omega)
              have q4 : 0 < a0.size := (by have : (0 : Int) < (a0.size : Int) := of_decide_eq_true (by first | (with_reducible assumption) | assumption); omega)
              have hx4 : ∀ h : 0 < a0.size, ((a0[0]'h).toNat : Int) = bt a0 0 := bt_at a0 0
              clear p4
              have qi4 : (0 < (a0.size : Int)) = True := eq_true (of_decide_eq_true (by first | (with_reducible assumption) | assumption))
              replace q4 := eq_true q4
              have p6 : 0 ≤ (0 : Int) := (by omega)
              have q6 : 0 < a0.size := (by have : (0 : Int) < (a0.size : Int) := of_decide_eq_true (by first | (with_reducible assumption) | assumption); omega)
              have hx6 : ∀ h : 0 < a0.size, ((a0[0]'h).toNat : Int) = bt a0 0 := bt_at a0 0
              clear p6
              have qi6 : (0 < (a0.size : Int)) = True := eq_true (of_decide_eq_true (by first | (with_reducible assumption) | assumption))
              replace q6 := eq_true q6
              go_enter Tryd.func89, Tryd.ntmps89
              go_wp2
              repeat (go_quiet (fail); try go_wp2)
              go_ret3
              exact ⟨by first | rfl | (simp; done) | (simp only [← hji9] <;> (first | rfl | simp)) | (simp [*]; done), by repeat (first | exact Drawn0.refl _ | apply Drawn0.step)⟩
            · rw [if_neg c10] at H
              exact absurd H (by simp)
          · rw [if_neg c8] at H
            exact absurd H (by simp)
        · rw [if_neg c7] at H
          exact absurd H (by simp)
    · rw [if_neg c3] at H
      exact absurd H (by simp)

end Go.Proofs.YtdogcnadopepmaaDoor.H
