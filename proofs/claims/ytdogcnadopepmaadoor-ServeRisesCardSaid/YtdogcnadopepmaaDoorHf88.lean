/- Laid by a program of this session's (hyb.py) over the kit's print: functions and their contracts, some callees' contracts being typed by hand. -/
import Derived.Test.YtdogcnadopepmaaDoorH0
namespace Go.Proofs.YtdogcnadopepmaaDoor.H
open Go.RowKit Go.Proofs.YtdogcnadopepmaaDoorW.PrintWords Go.Proofs.YtdogcnadopepmaaDoorW.PrintLast Go.Proofs.YtdogcnadopepmaaDoorW.PrintMore
attribute [local go_sem] max2_int min2_int max_two min_two max_three min_three max_four min_four   -- for this text's walks alone
set_option linter.unusedVariables false
set_option linter.unusedSimpArgs false

/-! ### interchangeref01_Take: function 88 -/
mutual
def interchangeref01_Take.j0 : Nat → ByteArray → Int → Bool → Option (Int × ByteArray × Int)
  | 0, _, _, _ => none
  | k + 1, x0, x1, x22 => if x22 = true then (some (0, (⟨#[]⟩ : ByteArray), 1)) else (if (x0.size : Int) < x1 then (some (0, (⟨#[]⟩ : ByteArray), 2)) else (interchangeref01_Take.l0 k x0 x1 0 0))
def interchangeref01_Take.l0 : Nat → ByteArray → Int → Int → Int → Option (Int × ByteArray × Int)
  | 0, _, _, _, _ => none
  | k + 1, x0, x1, x7, x8 => if x8 < x1 then (if 0 ≤ x8 then (if x8 < (x0.size : Int) then (interchangeref01_Take.l0 k x0 x1 (IntKind.u64.wrap ((IntKind.u64.wrap (256 * x7)) + (IntKind.u64.wrap (bt x0 x8)))) (wrap64 (x8 + 1))) else (none)) else (none)) else (if 0 ≤ x1 then (if x1 ≤ (x0.size : Int) then (some (x7, x0.extract (x1 : Int).toNat x0.size, 0)) else (none)) else (none))
end
def interchangeref01_Take.f (k : Nat) (a0 : ByteArray) (a1 : Int) : Option (Int × ByteArray × Int) := if a1 = 1 then (interchangeref01_Take.j0 k a0 a1 false) else (if a1 = 2 then (interchangeref01_Take.j0 k a0 a1 false) else (if a1 = 4 then (interchangeref01_Take.j0 k a0 a1 false) else (interchangeref01_Take.j0 k a0 a1 (a1 != 8))))
theorem interchangeref01_Take.mono_l : ∀ k, (∀ y0 y1 y2, LeO (interchangeref01_Take.j0 k y0 y1 y2) (interchangeref01_Take.j0 (k + 1) y0 y1 y2)) ∧ (∀ y0 y1 y2 y3, LeO (interchangeref01_Take.l0 k y0 y1 y2 y3) (interchangeref01_Take.l0 (k + 1) y0 y1 y2 y3))
  | 0 => ⟨fun _ _ _ r h => by simp [interchangeref01_Take.j0] at h, fun _ _ _ _ r h => by simp [interchangeref01_Take.l0] at h⟩
  | k + 1 => by
    obtain ⟨ih0, ih1⟩ := interchangeref01_Take.mono_l k
    refine ⟨?_, ?_⟩
    · intro y0 y1 y2
      unfold interchangeref01_Take.j0
      repeat' first
      | (with_reducible exact ih0 _ _ _)
      | (with_reducible exact ih1 _ _ _ _)
      | (with_reducible exact LeO.refl _)
      | (with_reducible exact LeO.none _)
      | (with_reducible refine LeO.ite ?_ ?_)
      | (with_reducible refine LeO.bind ?_ (fun _ => ?_))
      | exact ih0 _ _ _
      | exact ih1 _ _ _ _
      | exact LeO.none _
      | refine LeO.ite ?_ ?_
      | refine LeO.bind ?_ (fun _ => ?_)
    · intro y0 y1 y2 y3
      unfold interchangeref01_Take.l0
      repeat' first
      | (with_reducible exact ih0 _ _ _)
      | (with_reducible exact ih1 _ _ _ _)
      | (with_reducible exact LeO.refl _)
      | (with_reducible exact LeO.none _)
      | (with_reducible refine LeO.ite ?_ ?_)
      | (with_reducible refine LeO.bind ?_ (fun _ => ?_))
      | exact ih0 _ _ _
      | exact ih1 _ _ _ _
      | exact LeO.none _
      | refine LeO.ite ?_ ?_
      | refine LeO.bind ?_ (fun _ => ?_)
theorem interchangeref01_Take.mono : ∀ a0 a1 k, LeO (interchangeref01_Take.f k a0 a1) (interchangeref01_Take.f (k + 1) a0 a1) := by
  intro a0 a1 k
  obtain ⟨ih0, ih1⟩ := interchangeref01_Take.mono_l k
  unfold interchangeref01_Take.f
  repeat' first
      | (with_reducible exact ih0 _ _ _)
      | (with_reducible exact ih1 _ _ _ _)
      | (with_reducible exact LeO.refl _)
      | (with_reducible exact LeO.none _)
      | (with_reducible refine LeO.ite ?_ ?_)
      | (with_reducible refine LeO.bind ?_ (fun _ => ?_))
      | exact ih0 _ _ _
      | exact ih1 _ _ _ _
      | exact LeO.none _
      | refine LeO.ite ?_ ?_
      | refine LeO.bind ?_ (fun _ => ?_)
set_option maxHeartbeats 8000000 in
set_option maxRecDepth 100000 in
theorem interchangeref01_Take.calls (k : Nat) (a0 : ByteArray) (a1 : Int) (r1 : Int) (r2 : ByteArray) (r3 : Int) (w : World) (h : interchangeref01_Take.f k a0 a1 = some (r1, r2, r3)) :
    Calls Tryd.prog 88 #[.string a0, .int .i64 a1] w fun e w' => e = .returned (.tuple #[.int .u64 r1, .string r2, .int .i64 r3]) ∧ Drawn0 w w' := by
  have H : (if a1 = 1 then (interchangeref01_Take.j0 k a0 a1 false) else (if a1 = 2 then (interchangeref01_Take.j0 k a0 a1 false) else (if a1 = 4 then (interchangeref01_Take.j0 k a0 a1 false) else (interchangeref01_Take.j0 k a0 a1 (a1 != 8))))) = some (r1, r2, r3) := h
  clear h
  have HC3 := Aside0.mk H
  clear H
  go_enter Tryd.func88, Tryd.ntmps88
  go_upto_region 1 with (fail)
  repeat (go_quiet (fail); go_upto_region 1 with (fail))
  go_cut [22] (fun v22 wc => ∃ (kq : Nat) (x22_2 : Bool), v22 = .bool x22_2 ∧ Aside0 (interchangeref01_Take.j0 kq a0 a1 x22_2 = some (r1, r2, r3)) ∧ Aside0 (kq ≤ k) ∧ Drawn0 w wc)
  case first =>
    have H := HC3.out
    clear HC3
    by_cases c4 : a1 = 1
    · rw [if_pos c4] at H
      have c4b0 : (a1 == 1) = true := beq_iff_eq.mpr c4
      have c4b1 : (a1 != 1) = false := bne_eq_false_iff_eq.mpr c4
      clear c4
      (first | rw [c4b0] | (simp only [i64_w, i32_w]; rw [c4b0]) | skip)
      have H' := Aside0.mk H
      clear H
      go_wp2
      repeat (go_quiet (fail); try go_wp2)
      go_meet
      case rel => exact ⟨_, (false), (by first | rfl | (simp; done) | (simp [*]; done)), H', ⟨by first | omega | exact Nat.le_refl _⟩, by repeat (first | exact Drawn0.refl _ | apply Drawn0.step)⟩
    · rw [if_neg c4] at H
      have c4b0 : (a1 == 1) = false := beq_eq_false_iff_ne.mpr c4
      have c4b1 : (a1 != 1) = true := bne_iff_ne.mpr c4
      (first | rw [c4b0] | (simp only [i64_w, i32_w]; rw [c4b0]) | skip)
      by_cases c5 : a1 = 2
      · rw [if_pos c5] at H
        have c5b0 : (a1 == 2) = true := beq_iff_eq.mpr c5
        have c5b1 : (a1 != 2) = false := bne_eq_false_iff_eq.mpr c5
        clear c5
        have H' := Aside0.mk H
        clear H
        go_wp2
        repeat (go_quiet (fail); try go_wp2)
        go_meet
        case rel => exact ⟨_, (false), (by first | rfl | (simp; done) | (simp [*]; done)), H', ⟨by first | omega | exact Nat.le_refl _⟩, by repeat (first | exact Drawn0.refl _ | apply Drawn0.step)⟩
      · rw [if_neg c5] at H
        have c5b0 : (a1 == 2) = false := beq_eq_false_iff_ne.mpr c5
        have c5b1 : (a1 != 2) = true := bne_iff_ne.mpr c5
        by_cases c6 : a1 = 4
        · rw [if_pos c6] at H
          have c6b0 : (a1 == 4) = true := beq_iff_eq.mpr c6
          have c6b1 : (a1 != 4) = false := bne_eq_false_iff_eq.mpr c6
          clear c6
          have H' := Aside0.mk H
          clear H
          go_wp2
          repeat (go_quiet (fail); try go_wp2)
          go_meet
          case rel => exact ⟨_, (false), (by first | rfl | (simp; done) | (simp [*]; done)), H', ⟨by first | omega | exact Nat.le_refl _⟩, by repeat (first | exact Drawn0.refl _ | apply Drawn0.step)⟩
        · rw [if_neg c6] at H
          have c6b0 : (a1 == 4) = false := beq_eq_false_iff_ne.mpr c6
          have c6b1 : (a1 != 4) = true := bne_iff_ne.mpr c6
          have H' := Aside0.mk H
          clear H
          go_wp2
          repeat (go_quiet (fail); try go_wp2)
          go_meet
          case rel => exact ⟨_, ((a1 != 8)), (by first | rfl | (simp; done) | (simp [*]; done)), H', ⟨by first | omega | exact Nat.le_refl _⟩, by repeat (first | exact Drawn0.refl _ | apply Drawn0.step)⟩
  case rest =>
    clear HC3
    try clear p2
    try clear c4
    try clear c4b0
    try clear c4b1
    try clear c5
    try clear c5b0
    try clear c5b1
    try clear c6
    try clear c6b0
    try clear c6b1
    obtain ⟨kq, x22_2, rfl, HA, HJ2, ⟨mc2, rfl⟩⟩ := hcut
    cases kq with
    | zero => exact absurd HA.out (by simp [interchangeref01_Take.j0])
    | succ kj2 =>
      have H := HA.out
      clear HA
      simp only [interchangeref01_Take.j0] at H
      by_cases c7 : x22_2 = true
      · subst c7
        have H1 : (some (0, (⟨#[]⟩ : ByteArray), 1)) = some (r1, r2, r3) := by rw [if_pos rfl] at H; exact H
        clear H
        have H := H1
        clear H1
        simp only [Option.some.injEq, Prod.mk.injEq] at H
        obtain ⟨rfl, rfl, rfl⟩ := H
        go_wp2
        repeat (go_quiet (fail); try go_wp2)
        go_ret3
        exact ⟨by first | rfl | (simp; done) | (simp [*]; done), by repeat (first | exact Drawn0.refl _ | apply Drawn0.step)⟩
      · replace c7 := Bool.eq_false_iff.mpr c7
        subst c7
        have H1 : (if (a0.size : Int) < a1 then (some (0, (⟨#[]⟩ : ByteArray), 2)) else (interchangeref01_Take.l0 kj2 a0 a1 0 0)) = some (r1, r2, r3) := by rw [if_neg (show ¬ (false = true) by decide)] at H; exact H
        clear H
        have H := H1
        clear H1
        by_cases c8 : (a0.size : Int) < a1
        · rw [if_pos c8] at H
          have c8b0 : decide ((a0.size : Int) < a1) = true := decide_eq_true c8
          clear c8
          simp only [Option.some.injEq, Prod.mk.injEq] at H
          obtain ⟨rfl, rfl, rfl⟩ := H
          go_wp2
          repeat (go_quiet (fail); try go_wp2)
          go_ret3
          exact ⟨by first | rfl | (simp; done) | (simp [*]; done), by repeat (first | exact Drawn0.refl _ | apply Drawn0.step)⟩
        · rw [if_neg c8] at H
          have c8b0 : decide ((a0.size : Int) < a1) = false := decide_eq_false c8
          clear c8
          have H' := Aside0.mk H
          clear H
          go_wp2
          repeat (go_quiet (fail); try go_wp2)
          go_loopg [7, 8] kj2 (fun kq v7 v8 w' => ∃ (x7_2 : Int) (x8_2 : Int), v7 = .int .u64 x7_2 ∧ v8 = .int .i64 x8_2 ∧ Aside0 (interchangeref01_Take.l0 kq a0 a1 x7_2 x8_2 = some (r1, r2, r3)) ∧ Aside0 (kq ≤ kj2) ∧ Drawn0 w w')
          case atStart => exact ⟨(0), (0), (by first | rfl | (simp; done) | (simp [*]; done)), (by first | rfl | (simp; done) | (simp [*]; done)), H', ⟨Nat.le_refl _⟩, by repeat (first | exact Drawn0.refl _ | apply Drawn0.step)⟩
          case round =>
            clear H'
            try clear c2
            try clear p2
            try clear c4
            try clear c4b0
            try clear c4b1
            try clear c5
            try clear c5b0
            try clear c5b1
            try clear c6
            try clear c6b0
            try clear c6b1
            try clear c7
            try clear c8
            try clear c8b0
            try clear p2
            obtain ⟨x7_2, x8_2, rfl, rfl, HA, HK2, ⟨m2, rfl⟩⟩ := hrel
            cases gk with
            | zero => exact absurd HA.out (by simp [interchangeref01_Take.l0])
            | succ k2 =>
              have H := HA.out
              clear HA
              simp only [interchangeref01_Take.l0] at H
              by_cases c9 : x8_2 < a1
              · rw [if_pos c9] at H
                have c9b0 : decide (x8_2 < a1) = true := decide_eq_true c9
                clear c9
                by_cases c10 : 0 ≤ x8_2
                · rw [if_pos c10] at H
                  have c10b0 : decide (0 ≤ x8_2) = true := decide_eq_true c10
                  clear c10
                  by_cases c11 : x8_2 < (a0.size : Int)
                  · rw [if_pos c11] at H
                    have c11b0 : decide (x8_2 < (a0.size : Int)) = true := decide_eq_true c11
                    clear c11
                    have H' := Aside0.mk H
                    clear H
                    have p12 : 0 ≤ (x8_2 : Int) := of_decide_eq_true (by first | (with_reducible assumption) | assumption)
                    have q12 : x8_2 < (a0.size : Int) := of_decide_eq_true (by first | (with_reducible assumption) | assumption)
                    have hx12 := bt_at a0 x8_2
                    replace p12 := eq_true p12
                    replace q12 := eq_true q12
                    go_wp2
                    repeat (go_quiet (fail); try go_wp2)
                    go_roundg k2
                    case measure => have := HJ2.out; have := HK2.out; omega
                    case rel => exact ⟨(IntKind.u64.wrap ((IntKind.u64.wrap (256 * x7_2)) + (IntKind.u64.wrap (bt a0 x8_2)))), (wrap64 (x8_2 + 1)), (by first | rfl | (simp; done) | (simp [*]; done)), (by first | rfl | (simp; done) | (simp [*]; done)), H', ⟨by have := HJ2.out; have := HK2.out; omega⟩, by repeat (first | exact Drawn0.refl _ | apply Drawn0.step)⟩
                  · rw [if_neg c11] at H
                    exact absurd H (by simp)
                · rw [if_neg c10] at H
                  exact absurd H (by simp)
              · rw [if_neg c9] at H
                have c9b0 : decide (x8_2 < a1) = false := decide_eq_false c9
                clear c9
                by_cases c13 : 0 ≤ a1
                · rw [if_pos c13] at H
                  have c13b0 := eq_true c13
                  have c13b1 : decide (0 ≤ a1) = true := decide_eq_true c13
                  clear c13
                  by_cases c14 : a1 ≤ (a0.size : Int)
                  · rw [if_pos c14] at H
                    have c14b0 := eq_true c14
                    have c14b1 : decide (a1 ≤ (a0.size : Int)) = true := decide_eq_true c14
                    clear c14
                    simp only [Option.some.injEq, Prod.mk.injEq] at H
                    obtain ⟨rfl, rfl, rfl⟩ := H
                    go_wp2
                    repeat (go_quiet (fail); try go_wp2)
                    go_ret3
                    exact ⟨by first | rfl | (simp; done) | (simp [*]; done), by repeat (first | exact Drawn0.refl _ | apply Drawn0.step)⟩
                  · rw [if_neg c14] at H
                    exact absurd H (by simp)
                · rw [if_neg c13] at H
                  exact absurd H (by simp)

end Go.Proofs.YtdogcnadopepmaaDoor.H
