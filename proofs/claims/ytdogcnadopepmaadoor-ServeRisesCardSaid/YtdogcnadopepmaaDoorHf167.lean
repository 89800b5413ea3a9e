/- Laid by a program of this session's (hyb.py) over the kit's print: functions and their contracts, some callees' contracts being typed by hand. -/
import Derived.Test.YtdogcnadopepmaaDoorH0
namespace Go.Proofs.YtdogcnadopepmaaDoor.H
open Go.RowKit Go.Proofs.YtdogcnadopepmaaDoorW.PrintWords Go.Proofs.YtdogcnadopepmaaDoorW.PrintLast Go.Proofs.YtdogcnadopepmaaDoorW.PrintMore
attribute [local go_sem] max2_int min2_int max_two min_two max_three min_three max_four min_four   -- for this text's walks alone
set_option linter.unusedVariables false
set_option linter.unusedSimpArgs false

/-! ### interchangeref03_size: function 167 -/
mutual
def interchangeref03_size.j0 : Nat → Int → Bool → Option (Int)
  | 0, _, _ => none
  | k + 1, x0, x14 => if x14 = true then (some 1) else (if x0 = 115 then (interchangeref03_size.j1 k x0 true) else (interchangeref03_size.j1 k x0 (x0 == 117)))
def interchangeref03_size.j1 : Nat → Int → Bool → Option (Int)
  | 0, _, _ => none
  | k + 1, x0, x20 => if x20 = true then (some 2) else (if x0 = 73 then (interchangeref03_size.j2 k x0 true) else (if x0 = 105 then (interchangeref03_size.j2 k x0 true) else (interchangeref03_size.j2 k x0 (x0 == 102))))
def interchangeref03_size.j2 : Nat → Int → Bool → Option (Int)
  | 0, _, _ => none
  | k + 1, x0, x30 => if x30 = true then (some 4) else (if x0 = 68 then (some 5) else (if x0 = 108 then (some 8) else (if x0 = 100 then (some 8) else (if x0 = 84 then (some 8) else (some (-1))))))
end
def interchangeref03_size.f (k : Nat) (a0 : Int) : Option (Int) := if a0 = 86 then (some 0) else (if a0 = 116 then (interchangeref03_size.j0 k a0 true) else (if a0 = 98 then (interchangeref03_size.j0 k a0 true) else (interchangeref03_size.j0 k a0 (a0 == 66))))
theorem interchangeref03_size.mono_l : ∀ k, (∀ y0 y1, LeO (interchangeref03_size.j0 k y0 y1) (interchangeref03_size.j0 (k + 1) y0 y1)) ∧ (∀ y0 y1, LeO (interchangeref03_size.j1 k y0 y1) (interchangeref03_size.j1 (k + 1) y0 y1)) ∧ (∀ y0 y1, LeO (interchangeref03_size.j2 k y0 y1) (interchangeref03_size.j2 (k + 1) y0 y1))
  | 0 => ⟨fun _ _ r h => by simp [interchangeref03_size.j0] at h, fun _ _ r h => by simp [interchangeref03_size.j1] at h, fun _ _ r h => by simp [interchangeref03_size.j2] at h⟩
  | k + 1 => by
    obtain ⟨ih0, ih1, ih2⟩ := interchangeref03_size.mono_l k
    refine ⟨?_, ?_, ?_⟩
    · intro y0 y1
      unfold interchangeref03_size.j0
      repeat' first
      | (with_reducible exact ih0 _ _)
      | (with_reducible exact ih1 _ _)
      | (with_reducible exact ih2 _ _)
      | (with_reducible exact LeO.refl _)
      | (with_reducible exact LeO.none _)
      | (with_reducible refine LeO.ite ?_ ?_)
      | (with_reducible refine LeO.bind ?_ (fun _ => ?_))
      | exact ih0 _ _
      | exact ih1 _ _
      | exact ih2 _ _
      | exact LeO.none _
      | refine LeO.ite ?_ ?_
      | refine LeO.bind ?_ (fun _ => ?_)
    · intro y0 y1
      unfold interchangeref03_size.j1
      repeat' first
      | (with_reducible exact ih0 _ _)
      | (with_reducible exact ih1 _ _)
      | (with_reducible exact ih2 _ _)
      | (with_reducible exact LeO.refl _)
      | (with_reducible exact LeO.none _)
      | (with_reducible refine LeO.ite ?_ ?_)
      | (with_reducible refine LeO.bind ?_ (fun _ => ?_))
      | exact ih0 _ _
      | exact ih1 _ _
      | exact ih2 _ _
      | exact LeO.none _
      | refine LeO.ite ?_ ?_
      | refine LeO.bind ?_ (fun _ => ?_)
    · intro y0 y1
      unfold interchangeref03_size.j2
      repeat' first
      | (with_reducible exact ih0 _ _)
      | (with_reducible exact ih1 _ _)
      | (with_reducible exact ih2 _ _)
      | (with_reducible exact LeO.refl _)
      | (with_reducible exact LeO.none _)
      | (with_reducible refine LeO.ite ?_ ?_)
      | (with_reducible refine LeO.bind ?_ (fun _ => ?_))
      | exact ih0 _ _
      | exact ih1 _ _
      | exact ih2 _ _
      | exact LeO.none _
      | refine LeO.ite ?_ ?_
      | refine LeO.bind ?_ (fun _ => ?_)
theorem interchangeref03_size.mono : ∀ a0 k, LeO (interchangeref03_size.f k a0) (interchangeref03_size.f (k + 1) a0) := by
  intro a0 k
  obtain ⟨ih0, ih1, ih2⟩ := interchangeref03_size.mono_l k
  unfold interchangeref03_size.f
  repeat' first
      | (with_reducible exact ih0 _ _)
      | (with_reducible exact ih1 _ _)
      | (with_reducible exact ih2 _ _)
      | (with_reducible exact LeO.refl _)
      | (with_reducible exact LeO.none _)
      | (with_reducible refine LeO.ite ?_ ?_)
      | (with_reducible refine LeO.bind ?_ (fun _ => ?_))
      | exact ih0 _ _
      | exact ih1 _ _
      | exact ih2 _ _
      | exact LeO.none _
      | refine LeO.ite ?_ ?_
      | refine LeO.bind ?_ (fun _ => ?_)
set_option maxHeartbeats 8000000 in
set_option maxRecDepth 100000 in
theorem interchangeref03_size.calls (k : Nat) (a0 : Int) (r : Int) (w : World) (h : interchangeref03_size.f k a0 = some r) :
    Calls Tryd.prog 167 #[.int .u8 a0] w fun e w' => e = .returned (.int .i64 r) ∧ Drawn0 w w' := by
  have H : (if a0 = 86 then (some 0) else (if a0 = 116 then (interchangeref03_size.j0 k a0 true) else (if a0 = 98 then (interchangeref03_size.j0 k a0 true) else (interchangeref03_size.j0 k a0 (a0 == 66))))) = some r := h
  clear h
  by_cases c2 : a0 = 86
  · rw [if_pos c2] at H
    have c2b0 : (a0 == 86) = true := beq_iff_eq.mpr c2
    have c2b1 : (a0 != 86) = false := bne_eq_false_iff_eq.mpr c2
    clear c2
    obtain rfl := Option.some.inj H
    go_enter Tryd.func167, Tryd.ntmps167
    go_wp2
    go_ret
    exact ⟨by first | rfl | (simp; done) | (simp [*]; done), by repeat (first | exact Drawn0.refl _ | apply Drawn0.step)⟩
  · rw [if_neg c2] at H
    have c2b0 : (a0 == 86) = false := beq_eq_false_iff_ne.mpr c2
    have c2b1 : (a0 != 86) = true := bne_iff_ne.mpr c2
    have HC3 := Aside0.mk H
    clear H
    go_enter Tryd.func167, Tryd.ntmps167
    go_upto_region 3 with (fail)
    go_cut [14] (fun v14 wc => ∃ (kq : Nat) (x14_2 : Bool), v14 = .bool x14_2 ∧ Aside0 (interchangeref03_size.j0 kq a0 x14_2 = some r) ∧ Aside0 (kq ≤ k) ∧ Drawn0 w wc)
    case first =>
      have H := HC3.out
      clear HC3
      by_cases c4 : a0 = 116
      · rw [if_pos c4] at H
        have c4b0 : (a0 == 116) = true := beq_iff_eq.mpr c4
        have c4b1 : (a0 != 116) = false := bne_eq_false_iff_eq.mpr c4
        clear c4
        (first | rw [c4b0] | (simp only [i64_w, i32_w]; rw [c4b0]) | skip)
        have H' := Aside0.mk H
        clear H
        go_wp2
        go_meet
        case rel => exact ⟨_, (true), (by first | rfl | (simp; done) | (simp [*]; done)), H', ⟨by first | omega | exact Nat.le_refl _⟩, by repeat (first | exact Drawn0.refl _ | apply Drawn0.step)⟩
      · rw [if_neg c4] at H
        have c4b0 : (a0 == 116) = false := beq_eq_false_iff_ne.mpr c4
        have c4b1 : (a0 != 116) = true := bne_iff_ne.mpr c4
        (first | rw [c4b0] | (simp only [i64_w, i32_w]; rw [c4b0]) | skip)
        by_cases c5 : a0 = 98
        · rw [if_pos c5] at H
          have c5b0 : (a0 == 98) = true := beq_iff_eq.mpr c5
          have c5b1 : (a0 != 98) = false := bne_eq_false_iff_eq.mpr c5
          clear c5
          have H' := Aside0.mk H
          clear H
          go_wp2
          go_meet
          case rel => exact ⟨_, (true), (by first | rfl | (simp; done) | (simp [*]; done)), H', ⟨by first | omega | exact Nat.le_refl _⟩, by repeat (first | exact Drawn0.refl _ | apply Drawn0.step)⟩
        · rw [if_neg c5] at H
          have c5b0 : (a0 == 98) = false := beq_eq_false_iff_ne.mpr c5
          have c5b1 : (a0 != 98) = true := bne_iff_ne.mpr c5
          have H' := Aside0.mk H
          clear H
          go_wp2
          go_meet
          case rel => exact ⟨_, ((a0 == 66)), (by first | rfl | (simp; done) | (simp [*]; done)), H', ⟨by first | omega | exact Nat.le_refl _⟩, by repeat (first | exact Drawn0.refl _ | apply Drawn0.step)⟩
    case rest =>
      clear HC3
      try clear c1
      try clear c2
      try clear c2b0
      try clear c2b1
      try clear p2
      try clear c4
      try clear c4b0
      try clear c4b1
      try clear c5
      try clear c5b0
      try clear c5b1
      obtain ⟨kq, x14_2, rfl, HA, HJ2, ⟨mc2, rfl⟩⟩ := hcut
      cases kq with
      | zero => exact absurd HA.out (by simp [interchangeref03_size.j0])
      | succ kj2 =>
        have H := HA.out
        clear HA
        simp only [interchangeref03_size.j0] at H
        by_cases c6 : x14_2 = true
        · subst c6
          have H1 : (some 1) = some r := by rw [if_pos rfl] at H; exact H
          clear H
          have H := H1
          clear H1
          obtain rfl := Option.some.inj H
          go_wp2
          go_ret
          exact ⟨by first | rfl | (simp; done) | (simp [*]; done), by repeat (first | exact Drawn0.refl _ | apply Drawn0.step)⟩
        · replace c6 := Bool.eq_false_iff.mpr c6
          subst c6
          have H1 : (if a0 = 115 then (interchangeref03_size.j1 kj2 a0 true) else (interchangeref03_size.j1 kj2 a0 (a0 == 117))) = some r := by rw [if_neg (show ¬ (false = true) by decide)] at H; exact H
          clear H
          have H := H1
          clear H1
          have HC7 := Aside0.mk H
          clear H
          go_upto_region 5 with (fail)
          go_cut [20] (fun v20 wc => ∃ (kq : Nat) (x20_6 : Bool), v20 = .bool x20_6 ∧ Aside0 (interchangeref03_size.j1 kq a0 x20_6 = some r) ∧ Aside0 (kq ≤ kj2) ∧ Drawn0 w wc)
          case first =>
            have H := HC7.out
            clear HC7
            by_cases c8 : a0 = 115
            · rw [if_pos c8] at H
              have c8b0 : (a0 == 115) = true := beq_iff_eq.mpr c8
              have c8b1 : (a0 != 115) = false := bne_eq_false_iff_eq.mpr c8
              clear c8
              (first | rw [c8b0] | (simp only [i64_w, i32_w]; rw [c8b0]) | skip)
              have H' := Aside0.mk H
              clear H
              go_wp2
              go_meet
              case rel => exact ⟨_, (true), (by first | rfl | (simp; done) | (simp [*]; done)), H', ⟨by have := HJ2.out; first | omega | exact Nat.le_refl _⟩, by repeat (first | exact Drawn0.refl _ | apply Drawn0.step)⟩
            · rw [if_neg c8] at H
              have c8b0 : (a0 == 115) = false := beq_eq_false_iff_ne.mpr c8
              have c8b1 : (a0 != 115) = true := bne_iff_ne.mpr c8
              (first | rw [c8b0] | (simp only [i64_w, i32_w]; rw [c8b0]) | skip)
              have H' := Aside0.mk H
              clear H
              go_wp2
              go_meet
              case rel => exact ⟨_, ((a0 == 117)), (by first | rfl | (simp; done) | (simp [*]; done)), H', ⟨by have := HJ2.out; first | omega | exact Nat.le_refl _⟩, by repeat (first | exact Drawn0.refl _ | apply Drawn0.step)⟩
          case rest =>
            clear HC7
            try clear c1
            try clear c2
            try clear c2b0
            try clear c2b1
            try clear p2
            try clear c4
            try clear c4b0
            try clear c4b1
            try clear c5
            try clear c5b0
            try clear c5b1
            try clear c6
            try clear c8
            try clear c8b0
            try clear c8b1
            try clear p2
            obtain ⟨kq, x20_6, rfl, HA, HJ6, ⟨mc6, rfl⟩⟩ := hcut
            cases kq with
            | zero => exact absurd HA.out (by simp [interchangeref03_size.j1])
            | succ kj6 =>
              have H := HA.out
              clear HA
              simp only [interchangeref03_size.j1] at H
              by_cases c9 : x20_6 = true
              · subst c9
                have H1 : (some 2) = some r := by rw [if_pos rfl] at H; exact H
                clear H
                have H := H1
                clear H1
                obtain rfl := Option.some.inj H
                go_wp2
                go_ret
                exact ⟨by first | rfl | (simp; done) | (simp [*]; done), by repeat (first | exact Drawn0.refl _ | apply Drawn0.step)⟩
              · replace c9 := Bool.eq_false_iff.mpr c9
                subst c9
                have H1 : (if a0 = 73 then (interchangeref03_size.j2 kj6 a0 true) else (if a0 = 105 then (interchangeref03_size.j2 kj6 a0 true) else (interchangeref03_size.j2 kj6 a0 (a0 == 102)))) = some r := by rw [if_neg (show ¬ (false = true) by decide)] at H; exact H
                clear H
                have H := H1
                clear H1
                have HC10 := Aside0.mk H
                clear H
                go_upto_region 7 with (fail)
                go_cut [30] (fun v30 wc => ∃ (kq : Nat) (x30_9 : Bool), v30 = .bool x30_9 ∧ Aside0 (interchangeref03_size.j2 kq a0 x30_9 = some r) ∧ Aside0 (kq ≤ kj6) ∧ Drawn0 w wc)
                case first =>
                  have H := HC10.out
                  clear HC10
                  by_cases c11 : a0 = 73
                  · rw [if_pos c11] at H
                    have c11b0 : (a0 == 73) = true := beq_iff_eq.mpr c11
                    have c11b1 : (a0 != 73) = false := bne_eq_false_iff_eq.mpr c11
                    clear c11
                    (first | rw [c11b0] | (simp only [i64_w, i32_w]; rw [c11b0]) | skip)
                    have H' := Aside0.mk H
                    clear H
                    go_wp2
                    go_meet
                    case rel => exact ⟨_, (true), (by first | rfl | (simp; done) | (simp [*]; done)), H', ⟨by have := HJ2.out; have := HJ6.out; first | omega | exact Nat.le_refl _⟩, by repeat (first | exact Drawn0.refl _ | apply Drawn0.step)⟩
                  · rw [if_neg c11] at H
                    have c11b0 : (a0 == 73) = false := beq_eq_false_iff_ne.mpr c11
                    have c11b1 : (a0 != 73) = true := bne_iff_ne.mpr c11
                    (first | rw [c11b0] | (simp only [i64_w, i32_w]; rw [c11b0]) | skip)
                    by_cases c12 : a0 = 105
                    · rw [if_pos c12] at H
                      have c12b0 : (a0 == 105) = true := beq_iff_eq.mpr c12
                      have c12b1 : (a0 != 105) = false := bne_eq_false_iff_eq.mpr c12
                      clear c12
                      have H' := Aside0.mk H
                      clear H
                      go_wp2
                      go_meet
                      case rel => exact ⟨_, (true), (by first | rfl | (simp; done) | (simp [*]; done)), H', ⟨by have := HJ2.out; have := HJ6.out; first | omega | exact Nat.le_refl _⟩, by repeat (first | exact Drawn0.refl _ | apply Drawn0.step)⟩
                    · rw [if_neg c12] at H
                      have c12b0 : (a0 == 105) = false := beq_eq_false_iff_ne.mpr c12
                      have c12b1 : (a0 != 105) = true := bne_iff_ne.mpr c12
                      have H' := Aside0.mk H
                      clear H
                      go_wp2
                      go_meet
                      case rel => exact ⟨_, ((a0 == 102)), (by first | rfl | (simp; done) | (simp [*]; done)), H', ⟨by have := HJ2.out; have := HJ6.out; first | omega | exact Nat.le_refl _⟩, by repeat (first | exact Drawn0.refl _ | apply Drawn0.step)⟩
                case rest =>
                  clear HC10
                  try clear c1
                  try clear c2
                  try clear c2b0
                  try clear c2b1
                  try clear p2
                  try clear c4
                  try clear c4b0
                  try clear c4b1
                  try clear c5
                  try clear c5b0
                  try clear c5b1
                  try clear c6
                  try clear c8
                  try clear c8b0
                  try clear c8b1
                  try clear c9
                  try clear c11
                  try clear c11b0
                  try clear c11b1
                  try clear c12
                  try clear c12b0
                  try clear c12b1
                  try clear p2
                  obtain ⟨kq, x30_9, rfl, HA, HJ9, ⟨mc9, rfl⟩⟩ := hcut
                  cases kq with
                  | zero => exact absurd HA.out (by simp [interchangeref03_size.j2])
                  | succ kj9 =>
                    have H := HA.out
                    clear HA
                    simp only [interchangeref03_size.j2] at H
                    by_cases c13 : x30_9 = true
                    · subst c13
                      have H1 : (some 4) = some r := by rw [if_pos rfl] at H; exact H
                      clear H
                      have H := H1
                      clear H1
                      obtain rfl := Option.some.inj H
                      go_wp2
                      go_ret
                      exact ⟨by first | rfl | (simp; done) | (simp [*]; done), by repeat (first | exact Drawn0.refl _ | apply Drawn0.step)⟩
                    · replace c13 := Bool.eq_false_iff.mpr c13
                      subst c13
                      have H1 : (if a0 = 68 then (some 5) else (if a0 = 108 then (some 8) else (if a0 = 100 then (some 8) else (if a0 = 84 then (some 8) else (some (-1)))))) = some r := by rw [if_neg (show ¬ (false = true) by decide)] at H; exact H
                      clear H
                      have H := H1
                      clear H1
                      by_cases c14 : a0 = 68
                      · rw [if_pos c14] at H
                        have c14b0 : (a0 == 68) = true := beq_iff_eq.mpr c14
                        have c14b1 : (a0 != 68) = false := bne_eq_false_iff_eq.mpr c14
                        clear c14
                        obtain rfl := Option.some.inj H
                        go_wp2
                        go_ret
                        exact ⟨by first | rfl | (simp; done) | (simp [*]; done), by repeat (first | exact Drawn0.refl _ | apply Drawn0.step)⟩
                      · rw [if_neg c14] at H
                        have c14b0 : (a0 == 68) = false := beq_eq_false_iff_ne.mpr c14
                        have c14b1 : (a0 != 68) = true := bne_iff_ne.mpr c14
                        by_cases c15 : a0 = 108
                        · rw [if_pos c15] at H
                          have c15b0 : (a0 == 108) = true := beq_iff_eq.mpr c15
                          have c15b1 : (a0 != 108) = false := bne_eq_false_iff_eq.mpr c15
                          clear c15
                          obtain rfl := Option.some.inj H
                          go_wp2
                          go_ret
                          exact ⟨by first | rfl | (simp; done) | (simp [*]; done), by repeat (first | exact Drawn0.refl _ | apply Drawn0.step)⟩
                        · rw [if_neg c15] at H
                          have c15b0 : (a0 == 108) = false := beq_eq_false_iff_ne.mpr c15
                          have c15b1 : (a0 != 108) = true := bne_iff_ne.mpr c15
                          by_cases c16 : a0 = 100
                          · rw [if_pos c16] at H
                            have c16b0 : (a0 == 100) = true := beq_iff_eq.mpr c16
                            have c16b1 : (a0 != 100) = false := bne_eq_false_iff_eq.mpr c16
                            clear c16
                            obtain rfl := Option.some.inj H
                            go_wp2
                            go_ret
                            exact ⟨by first | rfl | (simp; done) | (simp [*]; done), by repeat (first | exact Drawn0.refl _ | apply Drawn0.step)⟩
                          · rw [if_neg c16] at H
                            have c16b0 : (a0 == 100) = false := beq_eq_false_iff_ne.mpr c16
                            have c16b1 : (a0 != 100) = true := bne_iff_ne.mpr c16
                            by_cases c17 : a0 = 84
                            · rw [if_pos c17] at H
                              have c17b0 : (a0 == 84) = true := beq_iff_eq.mpr c17
                              have c17b1 : (a0 != 84) = false := bne_eq_false_iff_eq.mpr c17
                              clear c17
                              obtain rfl := Option.some.inj H
                              go_wp2
                              go_ret
                              exact ⟨by first | rfl | (simp; done) | (simp [*]; done), by repeat (first | exact Drawn0.refl _ | apply Drawn0.step)⟩
                            · rw [if_neg c17] at H
                              have c17b0 : (a0 == 84) = false := beq_eq_false_iff_ne.mpr c17
                              have c17b1 : (a0 != 84) = true := bne_iff_ne.mpr c17
                              obtain rfl := Option.some.inj H
                              go_wp2
                              go_ret
                              exact ⟨by first | rfl | (simp; done) | (simp [*]; done), by repeat (first | exact Drawn0.refl _ | apply Drawn0.step)⟩

end Go.Proofs.YtdogcnadopepmaaDoor.H
