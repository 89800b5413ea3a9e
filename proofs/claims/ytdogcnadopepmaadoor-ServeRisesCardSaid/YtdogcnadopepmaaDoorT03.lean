/- The document's tables, taken: interchangeref03.row and .value, which call each other, by one induction on the rounds. -/
import Derived.Test.YtdogcnadopepmaaDoorH0
import Derived.Test.YtdogcnadopepmaaDoorG2
import Derived.Test.YtdogcnadopepmaaDoorHf89
import Derived.Test.YtdogcnadopepmaaDoorHf148
import Derived.Test.YtdogcnadopepmaaDoorHf167
namespace Go.Proofs.YtdogcnadopepmaaDoor.M
open Go.RowKit Go.Proofs.YtdogcnadopepmaaDoor.H Go.Proofs.YtdogcnadopepmaaDoorW.PrintWords Go.Proofs.YtdogcnadopepmaaDoorW.PrintLast Go.Proofs.YtdogcnadopepmaaDoorW.PrintMore
attribute [local go_sem] max2_int min2_int max_two min_two max_three min_three max_four min_four
set_option linter.unusedVariables false
set_option linter.unusedSimpArgs false

mutual
def interchangeref03_value.f : Nat → ByteArray → Int → Option (ByteArray × Int × Int)
  | 0, _, _ => none
  | k + 1, a0, a1 => if (a0.size : Int) = 0 then (some ((⟨#[]⟩ : ByteArray), 0, 2)) else (if 0 < (a0.size : Int) then ((interchangeref03_size.f k (bt a0 0)).bind fun t132 => (if t132 ≥ 0 then (if (a0.size : Int) < (wrap64 (1 + t132)) then (some ((⟨#[]⟩ : ByteArray), 0, 2)) else (if 0 ≤ (wrap64 (1 + t132)) then (if (wrap64 (1 + t132)) ≤ (a0.size : Int) then (some (a0.extract ((wrap64 (1 + t132)) : Int).toNat a0.size, a1, 0)) else (none)) else (none))) else (if (bt a0 0) = 83 then (interchangeref03_value.j0 k a0 a1 false) else (if (bt a0 0) = 120 then (interchangeref03_value.j0 k a0 a1 false) else (if (bt a0 0) = 65 then (interchangeref03_value.j0 k a0 a1 false) else (interchangeref03_value.j0 k a0 a1 ((bt a0 0) != 70))))))) else (none))
def interchangeref03_value.j0 : Nat → ByteArray → Int → Bool → Option (ByteArray × Int × Int)
  | 0, _, _, _ => none
  | k + 1, x0, x1, x48 => if x48 = true then (some ((⟨#[]⟩ : ByteArray), 0, 3)) else (if 1 ≤ (x0.size : Int) then ((interchangeref03_inside.f k (x0.extract 1 x0.size)).bind fun bt133 => (if bt133.2.2 = 0 then (if 0 < (x0.size : Int) then (if (bt x0 0) = 83 then (interchangeref03_value.j1 k x0 x1 bt133.1 bt133.2.1 true) else (interchangeref03_value.j1 k x0 x1 bt133.1 bt133.2.1 ((bt x0 0) == 120))) else (none)) else (some ((⟨#[]⟩ : ByteArray), 0, bt133.2.2)))) else (none))
def interchangeref03_value.j1 : Nat → ByteArray → Int → ByteArray → ByteArray → Bool → Option (ByteArray × Int × Int)
  | 0, _, _, _, _, _ => none
  | k + 1, x0, x1, x8, x9, x66 => if x66 = true then (some (x9, x1, 0)) else (if x1 ≥ 32 then (some ((⟨#[]⟩ : ByteArray), 0, 5)) else (if 0 < (x0.size : Int) then ((interchangeref03_row.f k x8 (wrap64 (x1 + 1)) ((bt x0 0) == 70)).bind fun bt136 => (some (x9, bt136.1, bt136.2))) else (none)))
def interchangeref03_row.f : Nat → ByteArray → Int → Bool → Option (Int × Int)
  | 0, _, _, _ => none
  | k + 1, a0, a1, a2 => interchangeref03_row.l0 k a0 a1 a2 a1
def interchangeref03_row.l0 : Nat → ByteArray → Int → Bool → Int → Option (Int × Int)
  | 0, _, _, _, _ => none
  | k + 1, x0, x1, x2, x8 => if (x0.size : Int) > 0 then (if x2 = true then ((interchangeref02_TakeShort.f x0).bind fun bt132 => (if bt132.2.2 = 0 then (interchangeref03_row.j1 k bt132.2.1 x1 x2 x8) else (some (0, 3)))) else (interchangeref03_row.j1 k x0 x1 x2 x8)) else (some (x8, 0))
def interchangeref03_row.j1 : Nat → ByteArray → Int → Bool → Int → Option (Int × Int)
  | 0, _, _, _, _ => none
  | k + 1, x0, x1, x2, x8 => (interchangeref03_value.f k x0 x1).bind fun bt135 => (if bt135.2.2 = 2 then (interchangeref03_row.j2 k x1 x2 x8 bt135.1 bt135.2.1 3) else (interchangeref03_row.j2 k x1 x2 x8 bt135.1 bt135.2.1 bt135.2.2))
def interchangeref03_row.j2 : Nat → Int → Bool → Int → ByteArray → Int → Int → Option (Int × Int)
  | 0, _, _, _, _, _, _ => none
  | k + 1, x1, x2, x8, x12, x13, x14 => if x14 = 0 then (if x13 > x8 then (interchangeref03_row.l0 k x12 x1 x2 x13) else (interchangeref03_row.l0 k x12 x1 x2 x8)) else (some (0, x14))
end
theorem ref03_mono : ∀ k, (∀ y0 y1, LeO (interchangeref03_value.f k y0 y1) (interchangeref03_value.f (k + 1) y0 y1)) ∧ (∀ y0 y1 y2, LeO (interchangeref03_value.j0 k y0 y1 y2) (interchangeref03_value.j0 (k + 1) y0 y1 y2)) ∧ (∀ y0 y1 y2 y3 y4, LeO (interchangeref03_value.j1 k y0 y1 y2 y3 y4) (interchangeref03_value.j1 (k + 1) y0 y1 y2 y3 y4)) ∧ (∀ y0 y1 y2, LeO (interchangeref03_row.f k y0 y1 y2) (interchangeref03_row.f (k + 1) y0 y1 y2)) ∧ (∀ y0 y1 y2 y3, LeO (interchangeref03_row.l0 k y0 y1 y2 y3) (interchangeref03_row.l0 (k + 1) y0 y1 y2 y3)) ∧ (∀ y0 y1 y2 y3, LeO (interchangeref03_row.j1 k y0 y1 y2 y3) (interchangeref03_row.j1 (k + 1) y0 y1 y2 y3)) ∧ (∀ y0 y1 y2 y3 y4 y5, LeO (interchangeref03_row.j2 k y0 y1 y2 y3 y4 y5) (interchangeref03_row.j2 (k + 1) y0 y1 y2 y3 y4 y5))
  | 0 => ⟨fun _ _ r h => by simp [interchangeref03_value.f] at h, fun _ _ _ r h => by simp [interchangeref03_value.j0] at h, fun _ _ _ _ _ r h => by simp [interchangeref03_value.j1] at h, fun _ _ _ r h => by simp [interchangeref03_row.f] at h, fun _ _ _ _ r h => by simp [interchangeref03_row.l0] at h, fun _ _ _ _ r h => by simp [interchangeref03_row.j1] at h, fun _ _ _ _ _ _ r h => by simp [interchangeref03_row.j2] at h⟩
  | k + 1 => by
    obtain ⟨ih0, ih1, ih2, ih3, ih4, ih5, ih6⟩ := ref03_mono k
    refine ⟨?_, ?_, ?_, ?_, ?_, ?_, ?_⟩
    · intro y0 y1
      unfold interchangeref03_value.f
      repeat' first
      | (with_reducible exact ih0 _ _)
      | (with_reducible exact ih1 _ _ _)
      | (with_reducible exact ih2 _ _ _ _ _)
      | (with_reducible exact ih3 _ _ _)
      | (with_reducible exact ih4 _ _ _ _)
      | (with_reducible exact ih5 _ _ _ _)
      | (with_reducible exact ih6 _ _ _ _ _ _)
      | (with_reducible exact interchangeref03_size.mono _ _)
      | (with_reducible exact interchangeref03_inside.mono _ _)
      | (with_reducible exact LeO.refl _)
      | (with_reducible exact LeO.none _)
      | (with_reducible refine LeO.ite ?_ ?_)
      | (with_reducible refine LeO.bind ?_ (fun _ => ?_))
    · intro y0 y1 y2
      unfold interchangeref03_value.j0
      repeat' first
      | (with_reducible exact ih0 _ _)
      | (with_reducible exact ih1 _ _ _)
      | (with_reducible exact ih2 _ _ _ _ _)
      | (with_reducible exact ih3 _ _ _)
      | (with_reducible exact ih4 _ _ _ _)
      | (with_reducible exact ih5 _ _ _ _)
      | (with_reducible exact ih6 _ _ _ _ _ _)
      | (with_reducible exact interchangeref03_size.mono _ _)
      | (with_reducible exact interchangeref03_inside.mono _ _)
      | (with_reducible exact LeO.refl _)
      | (with_reducible exact LeO.none _)
      | (with_reducible refine LeO.ite ?_ ?_)
      | (with_reducible refine LeO.bind ?_ (fun _ => ?_))
    · intro y0 y1 y2 y3 y4
      unfold interchangeref03_value.j1
      repeat' first
      | (with_reducible exact ih0 _ _)
      | (with_reducible exact ih1 _ _ _)
      | (with_reducible exact ih2 _ _ _ _ _)
      | (with_reducible exact ih3 _ _ _)
      | (with_reducible exact ih4 _ _ _ _)
      | (with_reducible exact ih5 _ _ _ _)
      | (with_reducible exact ih6 _ _ _ _ _ _)
      | (with_reducible exact interchangeref03_size.mono _ _)
      | (with_reducible exact interchangeref03_inside.mono _ _)
      | (with_reducible exact LeO.refl _)
      | (with_reducible exact LeO.none _)
      | (with_reducible refine LeO.ite ?_ ?_)
      | (with_reducible refine LeO.bind ?_ (fun _ => ?_))
    · intro y0 y1 y2
      unfold interchangeref03_row.f
      repeat' first
      | (with_reducible exact ih0 _ _)
      | (with_reducible exact ih1 _ _ _)
      | (with_reducible exact ih2 _ _ _ _ _)
      | (with_reducible exact ih3 _ _ _)
      | (with_reducible exact ih4 _ _ _ _)
      | (with_reducible exact ih5 _ _ _ _)
      | (with_reducible exact ih6 _ _ _ _ _ _)
      | (with_reducible exact interchangeref03_size.mono _ _)
      | (with_reducible exact interchangeref03_inside.mono _ _)
      | (with_reducible exact LeO.refl _)
      | (with_reducible exact LeO.none _)
      | (with_reducible refine LeO.ite ?_ ?_)
      | (with_reducible refine LeO.bind ?_ (fun _ => ?_))
    · intro y0 y1 y2 y3
      unfold interchangeref03_row.l0
      repeat' first
      | (with_reducible exact ih0 _ _)
      | (with_reducible exact ih1 _ _ _)
      | (with_reducible exact ih2 _ _ _ _ _)
      | (with_reducible exact ih3 _ _ _)
      | (with_reducible exact ih4 _ _ _ _)
      | (with_reducible exact ih5 _ _ _ _)
      | (with_reducible exact ih6 _ _ _ _ _ _)
      | (with_reducible exact interchangeref03_size.mono _ _)
      | (with_reducible exact interchangeref03_inside.mono _ _)
      | (with_reducible exact LeO.refl _)
      | (with_reducible exact LeO.none _)
      | (with_reducible refine LeO.ite ?_ ?_)
      | (with_reducible refine LeO.bind ?_ (fun _ => ?_))
    · intro y0 y1 y2 y3
      unfold interchangeref03_row.j1
      repeat' first
      | (with_reducible exact ih0 _ _)
      | (with_reducible exact ih1 _ _ _)
      | (with_reducible exact ih2 _ _ _ _ _)
      | (with_reducible exact ih3 _ _ _)
      | (with_reducible exact ih4 _ _ _ _)
      | (with_reducible exact ih5 _ _ _ _)
      | (with_reducible exact ih6 _ _ _ _ _ _)
      | (with_reducible exact interchangeref03_size.mono _ _)
      | (with_reducible exact interchangeref03_inside.mono _ _)
      | (with_reducible exact LeO.refl _)
      | (with_reducible exact LeO.none _)
      | (with_reducible refine LeO.ite ?_ ?_)
      | (with_reducible refine LeO.bind ?_ (fun _ => ?_))
    · intro y0 y1 y2 y3 y4 y5
      unfold interchangeref03_row.j2
      repeat' first
      | (with_reducible exact ih0 _ _)
      | (with_reducible exact ih1 _ _ _)
      | (with_reducible exact ih2 _ _ _ _ _)
      | (with_reducible exact ih3 _ _ _)
      | (with_reducible exact ih4 _ _ _ _)
      | (with_reducible exact ih5 _ _ _ _)
      | (with_reducible exact ih6 _ _ _ _ _ _)
      | (with_reducible exact interchangeref03_size.mono _ _)
      | (with_reducible exact interchangeref03_inside.mono _ _)
      | (with_reducible exact LeO.refl _)
      | (with_reducible exact LeO.none _)
      | (with_reducible refine LeO.ite ?_ ?_)
      | (with_reducible refine LeO.bind ?_ (fun _ => ?_))
theorem interchangeref03_value.mono : ∀ a0 a1 k, LeO (interchangeref03_value.f k a0 a1) (interchangeref03_value.f (k + 1) a0 a1) := fun a0 a1 k => (ref03_mono k).1 a0 a1
theorem interchangeref03_row.mono : ∀ a0 a1 a2 k, LeO (interchangeref03_row.f k a0 a1 a2) (interchangeref03_row.f (k + 1) a0 a1 a2) := fun a0 a1 a2 k => (ref03_mono k).2.2.2.1 a0 a1 a2
abbrev Value03 (k : Nat) : Prop := ∀ (a0 : ByteArray) (a1 : Int) (r1 : ByteArray) (r2 r3 : Int) (w : World), interchangeref03_value.f k a0 a1 = some (r1, r2, r3) → Calls Tryd.prog 162 #[.string a0, .int .i64 a1] w fun e w' => e = .returned (.tuple #[.string r1, .int .i64 r2, .int .i64 r3]) ∧ Drawn0 w w'
abbrev Row03 (k : Nat) : Prop := ∀ (a0 : ByteArray) (a1 : Int) (a2 : Bool) (r1 r2 : Int) (w : World), interchangeref03_row.f k a0 a1 a2 = some (r1, r2) → Calls Tryd.prog 149 #[.string a0, .int .i64 a1, .bool a2] w fun e w' => e = .returned (.tuple #[.int .i64 r1, .int .i64 r2]) ∧ Drawn0 w w'
set_option maxHeartbeats 8000000 in
set_option maxRecDepth 100000 in
theorem value03_step (k : Nat) (IH : Hid (∀ j, j ≤ k → Row03 j)) (a0 : ByteArray) (a1 : Int) (r1 : ByteArray) (r2 : Int) (r3 : Int) (w : World) (h : interchangeref03_value.f (k + 1) a0 a1 = some (r1, r2, r3)) :
    Calls Tryd.prog 162 #[.string a0, .int .i64 a1] w fun e w' => e = .returned (.tuple #[.string r1, .int .i64 r2, .int .i64 r3]) ∧ Drawn0 w w' := by
  have H : (if (a0.size : Int) = 0 then (some ((⟨#[]⟩ : ByteArray), 0, 2)) else (if 0 < (a0.size : Int) then ((interchangeref03_size.f k (bt a0 0)).bind fun t132 => (if t132 ≥ 0 then (if (a0.size : Int) < (wrap64 (1 + t132)) then (some ((⟨#[]⟩ : ByteArray), 0, 2)) else (if 0 ≤ (wrap64 (1 + t132)) then (if (wrap64 (1 + t132)) ≤ (a0.size : Int) then (some (a0.extract ((wrap64 (1 + t132)) : Int).toNat a0.size, a1, 0)) else (none)) else (none))) else (if (bt a0 0) = 83 then (interchangeref03_value.j0 k a0 a1 false) else (if (bt a0 0) = 120 then (interchangeref03_value.j0 k a0 a1 false) else (if (bt a0 0) = 65 then (interchangeref03_value.j0 k a0 a1 false) else (interchangeref03_value.j0 k a0 a1 ((bt a0 0) != 70))))))) else (none))) = some (r1, r2, r3) := by rw [interchangeref03_value.f] at h; exact h
  clear h
  by_cases c3 : (a0.size : Int) = 0
  · rw [if_pos c3] at H
    have c3b0 : ((a0.size : Int) == 0) = true := beq_iff_eq.mpr c3
    have c3b1 : ((a0.size : Int) != 0) = false := bne_eq_false_iff_eq.mpr c3
    clear c3
    simp only [Option.some.injEq, Prod.mk.injEq] at H
    obtain ⟨rfl, rfl, rfl⟩ := H
    go_enter Tryd.func162, Tryd.ntmps162
    go_wp2
    go_ret3
    exact ⟨by first | rfl | (simp; done) | (simp [*]; done), by repeat (first | exact Drawn0.refl _ | apply Drawn0.step)⟩
  · rw [if_neg c3] at H
    have c3b0 : ((a0.size : Int) == 0) = false := beq_eq_false_iff_ne.mpr c3
    have c3b1 : ((a0.size : Int) != 0) = true := bne_iff_ne.mpr c3
    by_cases c4 : 0 < (a0.size : Int)
    · rw [if_pos c4] at H
      have c4b0 : decide (0 < (a0.size : Int)) = true := decide_eq_true c4
      have c4b1 : decide (0 < a0.size) = true := decide_eq_true (by omega)
      clear c4
      replace H := Option.bind_eq_some_iff.mp H
      obtain ⟨t132, A60, H⟩ := H
      replace H : (if t132 ≥ 0 then (if (a0.size : Int) < (wrap64 (1 + t132)) then (some ((⟨#[]⟩ : ByteArray), 0, 2)) else (if 0 ≤ (wrap64 (1 + t132)) then (if (wrap64 (1 + t132)) ≤ (a0.size : Int) then (some (a0.extract ((wrap64 (1 + t132)) : Int).toNat a0.size, a1, 0)) else (none)) else (none))) else (if (bt a0 0) = 83 then (interchangeref03_value.j0 k a0 a1 false) else (if (bt a0 0) = 120 then (interchangeref03_value.j0 k a0 a1 false) else (if (bt a0 0) = 65 then (interchangeref03_value.j0 k a0 a1 false) else (interchangeref03_value.j0 k a0 a1 ((bt a0 0) != 70)))))) = some (r1, r2, r3) := H
      have A6 := Aside0.mk A60
      clear A60
      by_cases c7 : t132 ≥ 0
      · rw [if_pos c7] at H
        have c7b0 : decide (0 ≤ t132) = true := decide_eq_true c7
        clear c7
        by_cases c8 : (a0.size : Int) < (wrap64 (1 + t132))
        · rw [if_pos c8] at H
          have c8b0 : decide ((a0.size : Int) < (wrap64 (1 + t132))) = true := decide_eq_true c8
          clear c8
          simp only [Option.some.injEq, Prod.mk.injEq] at H
          obtain ⟨rfl, rfl, rfl⟩ := H
          have p5 : 0 ≤ (0 : Int) := (by omega)
          have q5 : 0 < a0.size := (by have : (0 : Int) < (a0.size : Int) := of_decide_eq_true (by first | (with_reducible assumption) | assumption); omega)
          have hx5 : ∀ h : 0 < a0.size, ((a0[0]'h).toNat : Int) = bt a0 0 := bt_at a0 0
          clear p5
          have qi5 : (0 < (a0.size : Int)) = True := eq_true (of_decide_eq_true (by first | (with_reducible assumption) | assumption))
          replace q5 := eq_true q5
          go_enter Tryd.func162, Tryd.ntmps162
          go_wp2_with (first | ((with_reducible refine gate_callee (f := 167) rfl ?_); refine goesL_ (some 18) rfl rfl Tryd.func167 (by kernel_rfl) rfl #[.int .u8 (bt a0 0)] rfl (by (try simp only [List.map_toArray, List.map_cons, List.map_nil]); first | done | rfl | (simp only [List.length_drop, List.length_take]; rfl)) ?_; (with_reducible refine (interchangeref03_size.calls k (bt a0 0) t132 _ A6.out).mono ?_); rintro e w' ⟨rfl, ⟨nd, rfl⟩⟩; refine ⟨_, rfl, ?_⟩))
          go_ret3
          exact ⟨by first | rfl | (simp; done) | (simp [*]; done), by repeat (first | exact Drawn0.refl _ | apply Drawn0.step)⟩
        · rw [if_neg c8] at H
          have c8b0 : decide ((a0.size : Int) < (wrap64 (1 + t132))) = false := decide_eq_false c8
          clear c8
          obtain ⟨ji9, hji9⟩ : ∃ j_ : Int, (wrap64 (1 + t132)) = j_ := ⟨_, rfl⟩
          replace H : (if 0 ≤ (ji9) then (if (ji9) ≤ (a0.size : Int) then (some (a0.extract ((ji9) : Int).toNat a0.size, a1, 0)) else (none)) else (none)) = some (r1, r2, r3) := by first | (rw [hji9] at H; exact H) | (simp only [hji9] at H ⊢; exact H)
          (try rw [hji9] at c8b0)
          (try rw [hji9] at A6)
          have hji9w : (IntKind.i64.wrap (1 + t132)) = ji9 := (i64_w _).trans hji9
          by_cases c10 : 0 ≤ (ji9)
          · rw [if_pos c10] at H
            have c10b0 := eq_true c10
            have c10b1 : decide (0 ≤ (ji9)) = true := decide_eq_true c10
            clear c10
            by_cases c11 : (ji9) ≤ (a0.size : Int)
            · rw [if_pos c11] at H
              have c11b0 := eq_true c11
              have c11b1 : decide ((ji9) ≤ (a0.size : Int)) = true := decide_eq_true c11
              clear c11
              simp only [Option.some.injEq, Prod.mk.injEq] at H
              obtain ⟨rfl, rfl, rfl⟩ := H
              have p5 : 0 ≤ (0 : Int) := (by omega)
              have q5 : 0 < a0.size := (by have : (0 : Int) < (a0.size : Int) := of_decide_eq_true (by first | (with_reducible assumption) | assumption); omega)
              have hx5 : ∀ h : 0 < a0.size, ((a0[0]'h).toNat : Int) = bt a0 0 := bt_at a0 0
              clear p5
              have qi5 : (0 < (a0.size : Int)) = True := eq_true (of_decide_eq_true (by first | (with_reducible assumption) | assumption))
              replace q5 := eq_true q5
              go_enter Tryd.func162, Tryd.ntmps162
              go_wp2_with (first | ((with_reducible refine gate_callee (f := 167) rfl ?_); refine goesL_ (some 18) rfl rfl Tryd.func167 (by kernel_rfl) rfl #[.int .u8 (bt a0 0)] rfl (by (try simp only [List.map_toArray, List.map_cons, List.map_nil]); first | done | rfl | (simp only [List.length_drop, List.length_take]; rfl)) ?_; (with_reducible refine (interchangeref03_size.calls k (bt a0 0) t132 _ A6.out).mono ?_); rintro e w' ⟨rfl, ⟨nd, rfl⟩⟩; refine ⟨_, rfl, ?_⟩))
              go_ret3
              exact ⟨by first | rfl | (simp; done) | (simp only [← hji9] <;> (first | rfl | simp)) | (simp [*]; done), by repeat (first | exact Drawn0.refl _ | apply Drawn0.step)⟩
            · rw [if_neg c11] at H
              exact absurd H (by simp)
          · rw [if_neg c10] at H
            exact absurd H (by simp)
      · rw [if_neg c7] at H
        have c7b0 : decide (0 ≤ t132) = false := decide_eq_false c7
        clear c7
        have HC12 := Aside0.mk H
        clear H
        have p5 : 0 ≤ (0 : Int) := (by omega)
        have q5 : 0 < a0.size := (by have : (0 : Int) < (a0.size : Int) := of_decide_eq_true (by first | (with_reducible assumption) | assumption); omega)
        have hx5 : ∀ h : 0 < a0.size, ((a0[0]'h).toNat : Int) = bt a0 0 := bt_at a0 0
        clear p5
        have qi5 : (0 < (a0.size : Int)) = True := eq_true (of_decide_eq_true (by first | (with_reducible assumption) | assumption))
        replace q5 := eq_true q5
        go_enter Tryd.func162, Tryd.ntmps162
        go_upto_region 8 with (first | ((with_reducible refine gate_callee (f := 167) rfl ?_); refine goesL_ (some 18) rfl rfl Tryd.func167 (by kernel_rfl) rfl #[.int .u8 (bt a0 0)] rfl (by (try simp only [List.map_toArray, List.map_cons, List.map_nil]); first | done | rfl | (simp only [List.length_drop, List.length_take]; rfl)) ?_; (with_reducible refine (interchangeref03_size.calls k (bt a0 0) t132 _ A6.out).mono ?_); rintro e w' ⟨rfl, ⟨nd, rfl⟩⟩; refine ⟨_, rfl, ?_⟩))
        (try simp only [Act.put, List.setIfInBounds_toArray, List.set_cons_zero, List.set_cons_succ])
        go_cut [48] (fun v48 wc => ∃ (kq : Nat) (x48_11 : Bool), v48 = .bool x48_11 ∧ Aside0 (interchangeref03_value.j0 kq a0 a1 x48_11 = some (r1, r2, r3)) ∧ Aside0 (kq ≤ k) ∧ Drawn0 w wc)
        case first =>
          have H := HC12.out
          clear HC12
          by_cases c14 : (bt a0 0) = 83
          · rw [if_pos c14] at H
            have c14b0 : ((bt a0 0) == 83) = true := beq_iff_eq.mpr c14
            have c14b1 : ((bt a0 0) != 83) = false := bne_eq_false_iff_eq.mpr c14
            clear c14
            (first | rw [c14b0] | (simp only [i64_w, i32_w]; rw [c14b0]) | skip)
            have H' := Aside0.mk H
            clear H
            have p13 : 0 ≤ (0 : Int) := (by omega)
            have q13 : 0 < a0.size := (by have : (0 : Int) < (a0.size : Int) := of_decide_eq_true (by first | (with_reducible assumption) | assumption); omega)
            have hx13 : ∀ h : 0 < a0.size, ((a0[0]'h).toNat : Int) = bt a0 0 := bt_at a0 0
            clear p13
            have qi13 : (0 < (a0.size : Int)) = True := eq_true (of_decide_eq_true (by first | (with_reducible assumption) | assumption))
            replace q13 := eq_true q13
            go_wp2
            go_meet
            case rel => exact ⟨_, (false), (by first | rfl | (simp; done) | (simp [*]; done)), H', ⟨by first | omega | exact Nat.le_refl _⟩, by repeat (first | exact Drawn0.refl _ | apply Drawn0.step)⟩
          · rw [if_neg c14] at H
            have c14b0 : ((bt a0 0) == 83) = false := beq_eq_false_iff_ne.mpr c14
            have c14b1 : ((bt a0 0) != 83) = true := bne_iff_ne.mpr c14
            (first | rw [c14b0] | (simp only [i64_w, i32_w]; rw [c14b0]) | skip)
            by_cases c16 : (bt a0 0) = 120
            · rw [if_pos c16] at H
              have c16b0 : ((bt a0 0) == 120) = true := beq_iff_eq.mpr c16
              have c16b1 : ((bt a0 0) != 120) = false := bne_eq_false_iff_eq.mpr c16
              clear c16
              have H' := Aside0.mk H
              clear H
              have p13 : 0 ≤ (0 : Int) := (by omega)
              have q13 : 0 < a0.size := (by have : (0 : Int) < (a0.size : Int) := of_decide_eq_true (by first | (with_reducible assumption) | assumption); omega)
              have hx13 : ∀ h : 0 < a0.size, ((a0[0]'h).toNat : Int) = bt a0 0 := bt_at a0 0
              clear p13
              have qi13 : (0 < (a0.size : Int)) = True := eq_true (of_decide_eq_true (by first | (with_reducible assumption) | assumption))
              replace q13 := eq_true q13
              have p15 : 0 ≤ (0 : Int) := (by omega)
              have q15 : 0 < a0.size := (by have : (0 : Int) < (a0.size : Int) := of_decide_eq_true (by first | (with_reducible assumption) | assumption); omega)
              have hx15 : ∀ h : 0 < a0.size, ((a0[0]'h).toNat : Int) = bt a0 0 := bt_at a0 0
              clear p15
              have qi15 : (0 < (a0.size : Int)) = True := eq_true (of_decide_eq_true (by first | (with_reducible assumption) | assumption))
              replace q15 := eq_true q15
              go_wp2
              go_meet
              case rel => exact ⟨_, (false), (by first | rfl | (simp; done) | (simp [*]; done)), H', ⟨by first | omega | exact Nat.le_refl _⟩, by repeat (first | exact Drawn0.refl _ | apply Drawn0.step)⟩
            · rw [if_neg c16] at H
              have c16b0 : ((bt a0 0) == 120) = false := beq_eq_false_iff_ne.mpr c16
              have c16b1 : ((bt a0 0) != 120) = true := bne_iff_ne.mpr c16
              by_cases c18 : (bt a0 0) = 65
              · rw [if_pos c18] at H
                have c18b0 : ((bt a0 0) == 65) = true := beq_iff_eq.mpr c18
                have c18b1 : ((bt a0 0) != 65) = false := bne_eq_false_iff_eq.mpr c18
                clear c18
                have H' := Aside0.mk H
                clear H
                have p13 : 0 ≤ (0 : Int) := (by omega)
                have q13 : 0 < a0.size := (by have : (0 : Int) < (a0.size : Int) := of_decide_eq_true (by first | (with_reducible assumption) | assumption); omega)
                have hx13 : ∀ h : 0 < a0.size, ((a0[0]'h).toNat : Int) = bt a0 0 := bt_at a0 0
                clear p13
                have qi13 : (0 < (a0.size : Int)) = True := eq_true (of_decide_eq_true (by first | (with_reducible assumption) | assumption))
                replace q13 := eq_true q13
                have p15 : 0 ≤ (0 : Int) := (by omega)
                have q15 : 0 < a0.size := (by have : (0 : Int) < (a0.size : Int) := of_decide_eq_true (by first | (with_reducible assumption) | assumption); omega)
                have hx15 : ∀ h : 0 < a0.size, ((a0[0]'h).toNat : Int) = bt a0 0 := bt_at a0 0
                clear p15
                have qi15 : (0 < (a0.size : Int)) = True := eq_true (of_decide_eq_true (by first | (with_reducible assumption) | assumption))
                replace q15 := eq_true q15
                have p17 : 0 ≤ (0 : Int) := (by omega)
                have q17 : 0 < a0.size := (by have : (0 : Int) < (a0.size : Int) := of_decide_eq_true (by first | (with_reducible assumption) | assumption); omega)
                have hx17 : ∀ h : 0 < a0.size, ((a0[0]'h).toNat : Int) = bt a0 0 := bt_at a0 0
                clear p17
                have qi17 : (0 < (a0.size : Int)) = True := eq_true (of_decide_eq_true (by first | (with_reducible assumption) | assumption))
                replace q17 := eq_true q17
                go_wp2
                go_meet
                case rel => exact ⟨_, (false), (by first | rfl | (simp; done) | (simp [*]; done)), H', ⟨by first | omega | exact Nat.le_refl _⟩, by repeat (first | exact Drawn0.refl _ | apply Drawn0.step)⟩
              · rw [if_neg c18] at H
                have c18b0 : ((bt a0 0) == 65) = false := beq_eq_false_iff_ne.mpr c18
                have c18b1 : ((bt a0 0) != 65) = true := bne_iff_ne.mpr c18
                have H' := Aside0.mk H
                clear H
                have p13 : 0 ≤ (0 : Int) := (by omega)
                have q13 : 0 < a0.size := (by have : (0 : Int) < (a0.size : Int) := of_decide_eq_true (by first | (with_reducible assumption) | assumption); omega)
                have hx13 : ∀ h : 0 < a0.size, ((a0[0]'h).toNat : Int) = bt a0 0 := bt_at a0 0
                clear p13
                have qi13 : (0 < (a0.size : Int)) = True := eq_true (of_decide_eq_true (by first | (with_reducible assumption) | assumption))
                replace q13 := eq_true q13
                have p15 : 0 ≤ (0 : Int) := (by omega)
                have q15 : 0 < a0.size := (by have : (0 : Int) < (a0.size : Int) := of_decide_eq_true (by first | (with_reducible assumption) | assumption); omega)
                have hx15 : ∀ h : 0 < a0.size, ((a0[0]'h).toNat : Int) = bt a0 0 := bt_at a0 0
                clear p15
                have qi15 : (0 < (a0.size : Int)) = True := eq_true (of_decide_eq_true (by first | (with_reducible assumption) | assumption))
                replace q15 := eq_true q15
                have p17 : 0 ≤ (0 : Int) := (by omega)
                have q17 : 0 < a0.size := (by have : (0 : Int) < (a0.size : Int) := of_decide_eq_true (by first | (with_reducible assumption) | assumption); omega)
                have hx17 : ∀ h : 0 < a0.size, ((a0[0]'h).toNat : Int) = bt a0 0 := bt_at a0 0
                clear p17
                have qi17 : (0 < (a0.size : Int)) = True := eq_true (of_decide_eq_true (by first | (with_reducible assumption) | assumption))
                replace q17 := eq_true q17
                have p19 : 0 ≤ (0 : Int) := (by omega)
                have q19 : 0 < a0.size := (by have : (0 : Int) < (a0.size : Int) := of_decide_eq_true (by first | (with_reducible assumption) | assumption); omega)
                have hx19 : ∀ h : 0 < a0.size, ((a0[0]'h).toNat : Int) = bt a0 0 := bt_at a0 0
                clear p19
                have qi19 : (0 < (a0.size : Int)) = True := eq_true (of_decide_eq_true (by first | (with_reducible assumption) | assumption))
                replace q19 := eq_true q19
                go_wp2
                go_meet
                case rel => exact ⟨_, (((bt a0 0) != 70)), (by first | rfl | (simp; done) | (simp [*]; done)), H', ⟨by first | omega | exact Nat.le_refl _⟩, by repeat (first | exact Drawn0.refl _ | apply Drawn0.step)⟩
        case rest =>
          clear HC12
          try clear c1
          try clear p1
          try clear q1
          try clear hx1
          try clear qi1
          try clear p2
          try clear c3
          try clear c3b0
          try clear c3b1
          try clear c4
          try clear c4b0
          try clear c4b1
          try clear p5
          try clear q5
          try clear hx5
          try clear qi5
          try clear p6
          try clear c7
          try clear c7b0
          try clear c8
          try clear c8b0
          try clear c10
          try clear c10b0
          try clear c10b1
          try clear c11
          try clear c11b0
          try clear c11b1
          try clear p13
          try clear q13
          try clear hx13
          try clear qi13
          try clear c14
          try clear c14b0
          try clear c14b1
          try clear p15
          try clear q15
          try clear hx15
          try clear qi15
          try clear c16
          try clear c16b0
          try clear c16b1
          try clear p17
          try clear q17
          try clear hx17
          try clear qi17
          try clear c18
          try clear c18b0
          try clear c18b1
          try clear p19
          try clear q19
          try clear hx19
          try clear qi19
          try clear p13
          try clear p15
          try clear p17
          try clear p19
          try clear p5
          try clear q13
          try clear q15
          try clear q17
          try clear q19
          try clear q5
          obtain ⟨kq, x48_11, rfl, HA, HJ11, ⟨mc11, rfl⟩⟩ := hcut
          cases kq with
          | zero => exact absurd HA.out (by simp [interchangeref03_value.j0])
          | succ kj11 =>
            have H := HA.out
            clear HA
            simp only [interchangeref03_value.j0] at H
            by_cases c20 : x48_11 = true
            · subst c20
              have H1 : (some ((⟨#[]⟩ : ByteArray), 0, 3)) = some (r1, r2, r3) := by rw [if_pos rfl] at H; exact H
              clear H
              have H := H1
              clear H1
              simp only [Option.some.injEq, Prod.mk.injEq] at H
              obtain ⟨rfl, rfl, rfl⟩ := H
              go_wp2
              go_ret3
              exact ⟨by first | rfl | (simp; done) | (simp [*]; done), by repeat (first | exact Drawn0.refl _ | apply Drawn0.step)⟩
            · replace c20 := Bool.eq_false_iff.mpr c20
              subst c20
              have H1 : (if 1 ≤ (a0.size : Int) then ((interchangeref03_inside.f kj11 (a0.extract 1 a0.size)).bind fun bt133 => (if bt133.2.2 = 0 then (if 0 < (a0.size : Int) then (if (bt a0 0) = 83 then (interchangeref03_value.j1 kj11 a0 a1 bt133.1 bt133.2.1 true) else (interchangeref03_value.j1 kj11 a0 a1 bt133.1 bt133.2.1 ((bt a0 0) == 120))) else (none)) else (some ((⟨#[]⟩ : ByteArray), 0, bt133.2.2)))) else (none)) = some (r1, r2, r3) := by rw [if_neg (show ¬ (false = true) by decide)] at H; exact H
              clear H
              have H := H1
              clear H1
              by_cases c21 : 1 ≤ (a0.size : Int)
              · rw [if_pos c21] at H
                have c21b0 := eq_true c21
                have c21b1 : decide (1 ≤ (a0.size : Int)) = true := decide_eq_true c21
                clear c21
                replace H := Option.bind_eq_some_iff.mp H
                obtain ⟨⟨t133, t134, t135⟩, A220, H⟩ := H
                replace H : (if t135 = 0 then (if 0 < (a0.size : Int) then (if (bt a0 0) = 83 then (interchangeref03_value.j1 kj11 a0 a1 t133 t134 true) else (interchangeref03_value.j1 kj11 a0 a1 t133 t134 ((bt a0 0) == 120))) else (none)) else (some ((⟨#[]⟩ : ByteArray), 0, t135))) = some (r1, r2, r3) := H
                have A22 := Aside0.mk A220
                clear A220
                by_cases c23 : t135 = 0
                · rw [if_pos c23] at H
                  have c23b0 : (t135 == 0) = true := beq_iff_eq.mpr c23
                  have c23b1 : (t135 != 0) = false := bne_eq_false_iff_eq.mpr c23
                  clear c23
                  have HC24 := Aside0.mk H
                  clear H
                  go_upto_region 13 with (first | ((with_reducible refine gate_callee (f := 148) rfl ?_); refine goesL_ (some 52) rfl rfl Tryd.func148 (by kernel_rfl) rfl #[.string (a0.extract 1 a0.size)] rfl (by (try simp only [List.map_toArray, List.map_cons, List.map_nil]); first | done | rfl | (simp only [List.length_drop, List.length_take]; rfl)) ?_; (with_reducible refine (interchangeref03_inside.calls kj11 (a0.extract 1 a0.size) t133 t134 t135 _ A22.out).mono ?_); rintro e w' ⟨rfl, ⟨nd, rfl⟩⟩; refine ⟨_, rfl, ?_⟩))
                  (try simp only [Act.put, List.setIfInBounds_toArray, List.set_cons_zero, List.set_cons_succ])
                  go_cut [66] (fun v66 wc => ∃ (kq : Nat) (x66_23 : Bool), v66 = .bool x66_23 ∧ Aside0 (interchangeref03_value.j1 kq a0 a1 t133 t134 x66_23 = some (r1, r2, r3)) ∧ Aside0 (kq ≤ kj11) ∧ Drawn0 w wc)
                  case first =>
                    have H := HC24.out
                    clear HC24
                    by_cases c25 : 0 < (a0.size : Int)
                    · rw [if_pos c25] at H
                      have c25b0 : decide (0 < (a0.size : Int)) = true := decide_eq_true c25
                      have c25b1 : decide (0 < a0.size) = true := decide_eq_true (by omega)
                      clear c25
                      (first | rw [c25b0] | (simp only [i64_w, i32_w]; rw [c25b0]) | skip)
                      by_cases c27 : (bt a0 0) = 83
                      · rw [if_pos c27] at H
                        have c27b0 : ((bt a0 0) == 83) = true := beq_iff_eq.mpr c27
                        have c27b1 : ((bt a0 0) != 83) = false := bne_eq_false_iff_eq.mpr c27
                        clear c27
                        have H' := Aside0.mk H
                        clear H
                        have p26 : 0 ≤ (0 : Int) := (by omega)
                        have q26 : 0 < a0.size := (by have : (0 : Int) < (a0.size : Int) := of_decide_eq_true (by first | (with_reducible assumption) | assumption); omega)
                        have hx26 : ∀ h : 0 < a0.size, ((a0[0]'h).toNat : Int) = bt a0 0 := bt_at a0 0
                        clear p26
                        have qi26 : (0 < (a0.size : Int)) = True := eq_true (of_decide_eq_true (by first | (with_reducible assumption) | assumption))
                        replace q26 := eq_true q26
                        go_wp2
                        go_meet
                        case rel => exact ⟨_, (true), (by first | rfl | (simp; done) | (simp [*]; done)), H', ⟨by have := HJ11.out; first | omega | exact Nat.le_refl _⟩, by repeat (first | exact Drawn0.refl _ | apply Drawn0.step)⟩
                      · rw [if_neg c27] at H
                        have c27b0 : ((bt a0 0) == 83) = false := beq_eq_false_iff_ne.mpr c27
                        have c27b1 : ((bt a0 0) != 83) = true := bne_iff_ne.mpr c27
                        have H' := Aside0.mk H
                        clear H
                        have p26 : 0 ≤ (0 : Int) := (by omega)
                        have q26 : 0 < a0.size := (by have : (0 : Int) < (a0.size : Int) := of_decide_eq_true (by first | (with_reducible assumption) | assumption); omega)
                        have hx26 : ∀ h : 0 < a0.size, ((a0[0]'h).toNat : Int) = bt a0 0 := bt_at a0 0
                        clear p26
                        have qi26 : (0 < (a0.size : Int)) = True := eq_true (of_decide_eq_true (by first | (with_reducible assumption) | assumption))
                        replace q26 := eq_true q26
                        have p28 : 0 ≤ (0 : Int) := (by omega)
                        have q28 : 0 < a0.size := (by have : (0 : Int) < (a0.size : Int) := of_decide_eq_true (by first | (with_reducible assumption) | assumption); omega)
                        have hx28 : ∀ h : 0 < a0.size, ((a0[0]'h).toNat : Int) = bt a0 0 := bt_at a0 0
                        clear p28
                        have qi28 : (0 < (a0.size : Int)) = True := eq_true (of_decide_eq_true (by first | (with_reducible assumption) | assumption))
                        replace q28 := eq_true q28
                        go_wp2
                        go_meet
                        case rel => exact ⟨_, (((bt a0 0) == 120)), (by first | rfl | (simp; done) | (simp [*]; done)), H', ⟨by have := HJ11.out; first | omega | exact Nat.le_refl _⟩, by repeat (first | exact Drawn0.refl _ | apply Drawn0.step)⟩
                    · rw [if_neg c25] at H
                      exact absurd H (by simp)
                  case rest =>
                    clear HC24
                    try clear c1
                    try clear p1
                    try clear q1
                    try clear hx1
                    try clear qi1
                    try clear c2
                    try clear p2
                    try clear q2
                    try clear hx2
                    try clear qi2
                    try clear c3
                    try clear c3b0
                    try clear c3b1
                    try clear c4
                    try clear c4b0
                    try clear c4b1
                    try clear p5
                    try clear q5
                    try clear hx5
                    try clear qi5
                    try clear p6
                    try clear c7
                    try clear c7b0
                    try clear c8
                    try clear c8b0
                    try clear c10
                    try clear c10b0
                    try clear c10b1
                    try clear c11
                    try clear c11b0
                    try clear c11b1
                    try clear p13
                    try clear q13
                    try clear hx13
                    try clear qi13
                    try clear c14
                    try clear c14b0
                    try clear c14b1
                    try clear p15
                    try clear q15
                    try clear hx15
                    try clear qi15
                    try clear c16
                    try clear c16b0
                    try clear c16b1
                    try clear p17
                    try clear q17
                    try clear hx17
                    try clear qi17
                    try clear c18
                    try clear c18b0
                    try clear c18b1
                    try clear p19
                    try clear q19
                    try clear hx19
                    try clear qi19
                    try clear c20
                    try clear c21
                    try clear c21b0
                    try clear c21b1
                    try clear c23
                    try clear c23b0
                    try clear c23b1
                    try clear c25
                    try clear c25b0
                    try clear c25b1
                    try clear p26
                    try clear q26
                    try clear hx26
                    try clear qi26
                    try clear c27
                    try clear c27b0
                    try clear c27b1
                    try clear p28
                    try clear q28
                    try clear hx28
                    try clear qi28
                    try clear p1
                    try clear p13
                    try clear p15
                    try clear p17
                    try clear p19
                    try clear p2
                    try clear p26
                    try clear p28
                    try clear p5
                    try clear p6
                    try clear q1
                    try clear q13
                    try clear q15
                    try clear q17
                    try clear q19
                    try clear q26
                    try clear q28
                    try clear q5
                    obtain ⟨kq, x66_23, rfl, HA, HJ23, ⟨mc23, rfl⟩⟩ := hcut
                    cases kq with
                    | zero => exact absurd HA.out (by simp [interchangeref03_value.j1])
                    | succ kj23 =>
                      have H := HA.out
                      clear HA
                      simp only [interchangeref03_value.j1] at H
                      by_cases c29 : x66_23 = true
                      · subst c29
                        have H1 : (some (t134, a1, 0)) = some (r1, r2, r3) := by rw [if_pos rfl] at H; exact H
                        clear H
                        have H := H1
                        clear H1
                        simp only [Option.some.injEq, Prod.mk.injEq] at H
                        obtain ⟨rfl, rfl, rfl⟩ := H
                        go_wp2
                        go_ret3
                        exact ⟨by first | rfl | (simp; done) | (simp [*]; done), by repeat (first | exact Drawn0.refl _ | apply Drawn0.step)⟩
                      · replace c29 := Bool.eq_false_iff.mpr c29
                        subst c29
                        have H1 : (if a1 ≥ 32 then (some ((⟨#[]⟩ : ByteArray), 0, 5)) else (if 0 < (a0.size : Int) then ((interchangeref03_row.f kj23 t133 (wrap64 (a1 + 1)) ((bt a0 0) == 70)).bind fun bt136 => (some (t134, bt136.1, bt136.2))) else (none))) = some (r1, r2, r3) := by rw [if_neg (show ¬ (false = true) by decide)] at H; exact H
                        clear H
                        have H := H1
                        clear H1
                        by_cases c30 : a1 ≥ 32
                        · rw [if_pos c30] at H
                          have c30b0 : decide (32 ≤ a1) = true := decide_eq_true c30
                          clear c30
                          simp only [Option.some.injEq, Prod.mk.injEq] at H
                          obtain ⟨rfl, rfl, rfl⟩ := H
                          go_wp2
                          go_ret3
                          exact ⟨by first | rfl | (simp; done) | (simp [*]; done), by repeat (first | exact Drawn0.refl _ | apply Drawn0.step)⟩
                        · rw [if_neg c30] at H
                          have c30b0 : decide (32 ≤ a1) = false := decide_eq_false c30
                          clear c30
                          by_cases c31 : 0 < (a0.size : Int)
                          · rw [if_pos c31] at H
                            have c31b0 : decide (0 < (a0.size : Int)) = true := decide_eq_true c31
                            have c31b1 : decide (0 < a0.size) = true := decide_eq_true (by omega)
                            clear c31
                            replace H := Option.bind_eq_some_iff.mp H
                            obtain ⟨⟨t136, t137⟩, A330, H⟩ := H
                            replace H : (some (t134, t136, t137)) = some (r1, r2, r3) := H
                            have A33 := Aside0.mk A330
                            clear A330
                            simp only [Option.some.injEq, Prod.mk.injEq] at H
                            obtain ⟨rfl, rfl, rfl⟩ := H
                            have p32 : 0 ≤ (0 : Int) := (by omega)
                            have q32 : 0 < a0.size := (by have : (0 : Int) < (a0.size : Int) := of_decide_eq_true (by first | (with_reducible assumption) | assumption); omega)
                            have hx32 : ∀ h : 0 < a0.size, ((a0[0]'h).toNat : Int) = bt a0 0 := bt_at a0 0
                            clear p32
                            have qi32 : (0 < (a0.size : Int)) = True := eq_true (of_decide_eq_true (by first | (with_reducible assumption) | assumption))
                            replace q32 := eq_true q32
                            go_wp2_with (first | ((with_reducible refine gate_callee (f := 149) rfl ?_); refine goesL_ (some 78) rfl rfl Tryd.func149 (by kernel_rfl) rfl #[.string t133, .int .i64 (wrap64 (a1 + 1)), .bool ((bt a0 0) == 70)] rfl (by (try simp only [List.map_toArray, List.map_cons, List.map_nil]); first | done | rfl | (simp only [List.length_drop, List.length_take]; rfl)) ?_; (with_reducible refine (IH.out kj23 (by first | (have q1 := HK1.out; have q2 := HJ4.out; omega) | (have q1 := HJ11.out; have q2 := HJ23.out; omega)) t133 (wrap64 (a1 + 1)) ((bt a0 0) == 70) t136 t137 _ A33.out).mono ?_); rintro e w' ⟨rfl, ⟨nd, rfl⟩⟩; refine ⟨_, rfl, ?_⟩))
                            go_ret3
                            exact ⟨by first | rfl | (simp; done) | (simp [*]; done), by repeat (first | exact Drawn0.refl _ | apply Drawn0.step)⟩
                          · rw [if_neg c31] at H
                            exact absurd H (by simp)
                · rw [if_neg c23] at H
                  have c23b0 : (t135 == 0) = false := beq_eq_false_iff_ne.mpr c23
                  have c23b1 : (t135 != 0) = true := bne_iff_ne.mpr c23
                  simp only [Option.some.injEq, Prod.mk.injEq] at H
                  obtain ⟨rfl, rfl, rfl⟩ := H
                  go_wp2_with (first | ((with_reducible refine gate_callee (f := 148) rfl ?_); refine goesL_ (some 52) rfl rfl Tryd.func148 (by kernel_rfl) rfl #[.string (a0.extract 1 a0.size)] rfl (by (try simp only [List.map_toArray, List.map_cons, List.map_nil]); first | done | rfl | (simp only [List.length_drop, List.length_take]; rfl)) ?_; (with_reducible refine (interchangeref03_inside.calls kj11 (a0.extract 1 a0.size) t133 t134 t135 _ A22.out).mono ?_); rintro e w' ⟨rfl, ⟨nd, rfl⟩⟩; refine ⟨_, rfl, ?_⟩))
                  go_ret3
                  exact ⟨by first | rfl | (simp; done) | (simp [*]; done), by repeat (first | exact Drawn0.refl _ | apply Drawn0.step)⟩
              · rw [if_neg c21] at H
                exact absurd H (by simp)
    · rw [if_neg c4] at H
      exact absurd H (by simp)

set_option maxHeartbeats 8000000 in
set_option maxRecDepth 100000 in
theorem row03_step (k : Nat) (IH : Hid (∀ j, j ≤ k → Value03 j)) (a0 : ByteArray) (a1 : Int) (a2 : Bool) (r1 : Int) (r2 : Int) (w : World) (h : interchangeref03_row.f (k + 1) a0 a1 a2 = some (r1, r2)) :
    Calls Tryd.prog 149 #[.string a0, .int .i64 a1, .bool a2] w fun e w' => e = .returned (.tuple #[.int .i64 r1, .int .i64 r2]) ∧ Drawn0 w w' := by
  have H : (interchangeref03_row.l0 k a0 a1 a2 a1) = some (r1, r2) := by rw [interchangeref03_row.f] at h; exact h
  clear h
  have H' := Aside0.mk H
  clear H
  go_enter Tryd.func149, Tryd.ntmps149
  go_wp2
  go_loopg [0, 8] k (fun kq v0 v8 w' => ∃ (x0_1 : ByteArray) (x8_1 : Int), v0 = .string x0_1 ∧ v8 = .int .i64 x8_1 ∧ Aside0 (interchangeref03_row.l0 kq x0_1 a1 a2 x8_1 = some (r1, r2)) ∧ Aside0 (kq ≤ k) ∧ Drawn0 w w')
  case atStart => exact ⟨(a0), (a1), (by first | rfl | (simp; done) | (simp [*]; done)), (by first | rfl | (simp; done) | (simp [*]; done)), H', ⟨Nat.le_refl _⟩, by repeat (first | exact Drawn0.refl _ | apply Drawn0.step)⟩
  case round =>
    clear H'
    try clear c1
    try clear p2
    obtain ⟨x0_1, x8_1, rfl, rfl, HA, HK1, ⟨m1, rfl⟩⟩ := hrel
    cases gk with
    | zero => exact absurd HA.out (by simp [interchangeref03_row.l0])
    | succ k1 =>
      have H := HA.out
      clear HA
      simp only [interchangeref03_row.l0] at H
      by_cases c4 : (x0_1.size : Int) > 0
      · rw [if_pos c4] at H
        have c4b0 : decide (0 < (x0_1.size : Int)) = true := decide_eq_true c4
        have c4b1 : decide (0 < x0_1.size) = true := decide_eq_true (by omega)
        clear c4
        have HC5 := Aside0.mk H
        clear H
        go_upto_if 19 with (fail)
        go_cut [0] (fun v0 wc => ∃ (kq : Nat) (x0_4 : ByteArray), v0 = .string x0_4 ∧ Aside0 (interchangeref03_row.j1 kq x0_4 a1 a2 x8_1 = some (r1, r2)) ∧ Aside0 (kq ≤ k1) ∧ Drawn0 w wc)
        case first =>
          have H := HC5.out
          clear HC5
          by_cases c6 : a2 = true
          · subst c6
            have H1 : ((interchangeref02_TakeShort.f x0_1).bind fun bt132 => (if bt132.2.2 = 0 then (interchangeref03_row.j1 k1 bt132.2.1 a1 true x8_1) else (some (0, 3)))) = some (r1, r2) := by rw [if_pos rfl] at H; exact H
            clear H
            have H := H1
            clear H1
            replace H := Option.bind_eq_some_iff.mp H
            obtain ⟨⟨t132, t133, t134⟩, A70, H⟩ := H
            replace H : (if t134 = 0 then (interchangeref03_row.j1 k1 t133 a1 true x8_1) else (some (0, 3))) = some (r1, r2) := H
            have A7 := Aside0.mk A70
            clear A70
            by_cases c8 : t134 = 0
            · rw [if_pos c8] at H
              have c8b0 : (t134 == 0) = true := beq_iff_eq.mpr c8
              have c8b1 : (t134 != 0) = false := bne_eq_false_iff_eq.mpr c8
              clear c8
              (first | rw [c8b0] | (simp only [i64_w, i32_w]; rw [c8b0]) | skip)
              have H' := Aside0.mk H
              clear H
              go_wp2_with (first | ((with_reducible refine gate_callee (f := 89) rfl ?_); refine goesL_ (some 22) rfl rfl Tryd.func89 (by kernel_rfl) rfl #[.string x0_1] rfl (by (try simp only [List.map_toArray, List.map_cons, List.map_nil]); first | done | rfl | (simp only [List.length_drop, List.length_take]; rfl)) ?_; (with_reducible refine (interchangeref02_TakeShort.calls x0_1 t132 t133 t134 _ A7.out).mono ?_); rintro e w' ⟨rfl, ⟨nd, rfl⟩⟩; refine ⟨_, rfl, ?_⟩))
              go_meet
              case rel => exact ⟨_, (t133), (by first | rfl | (simp; done) | (simp [*]; done)), H', ⟨by have := HK1.out; first | omega | exact Nat.le_refl _⟩, by repeat (first | exact Drawn0.refl _ | apply Drawn0.step)⟩
            · rw [if_neg c8] at H
              have c8b0 : (t134 == 0) = false := beq_eq_false_iff_ne.mpr c8
              have c8b1 : (t134 != 0) = true := bne_iff_ne.mpr c8
              (first | rw [c8b0] | (simp only [i64_w, i32_w]; rw [c8b0]) | skip)
              simp only [Option.some.injEq, Prod.mk.injEq] at H
              obtain ⟨rfl, rfl⟩ := H
              go_wp2_with (first | ((with_reducible refine gate_callee (f := 89) rfl ?_); refine goesL_ (some 22) rfl rfl Tryd.func89 (by kernel_rfl) rfl #[.string x0_1] rfl (by (try simp only [List.map_toArray, List.map_cons, List.map_nil]); first | done | rfl | (simp only [List.length_drop, List.length_take]; rfl)) ?_; (with_reducible refine (interchangeref02_TakeShort.calls x0_1 t132 t133 t134 _ A7.out).mono ?_); rintro e w' ⟨rfl, ⟨nd, rfl⟩⟩; refine ⟨_, rfl, ?_⟩))
              go_ret2
              exact ⟨by first | rfl | (simp; done) | (simp [*]; done), by repeat (first | exact Drawn0.refl _ | apply Drawn0.step)⟩
          · replace c6 := Bool.eq_false_iff.mpr c6
            subst c6
            have H1 : (interchangeref03_row.j1 k1 x0_1 a1 false x8_1) = some (r1, r2) := by rw [if_neg (show ¬ (false = true) by decide)] at H; exact H
            clear H
            have H := H1
            clear H1
            have H' := Aside0.mk H
            clear H
            go_wp2
            go_meet
            case rel => exact ⟨_, (x0_1), (by first | rfl | (simp; done) | (simp [*]; done)), H', ⟨by have := HK1.out; first | omega | exact Nat.le_refl _⟩, by repeat (first | exact Drawn0.refl _ | apply Drawn0.step)⟩
        case rest =>
          clear HC5
          try clear c1
          try clear p2
          try clear c4
          try clear c4b0
          try clear c4b1
          try clear c6
          try clear c8
          try clear c8b0
          try clear c8b1
          try clear p2
          obtain ⟨kq, x0_4, rfl, HA, HJ4, ⟨mc4, rfl⟩⟩ := hcut
          cases kq with
          | zero => exact absurd HA.out (by simp [interchangeref03_row.j1])
          | succ kj4 =>
            have H := HA.out
            clear HA
            simp only [interchangeref03_row.j1] at H
            replace H := Option.bind_eq_some_iff.mp H
            obtain ⟨⟨t135, t136, t137⟩, A90, H⟩ := H
            replace H : (if t137 = 2 then (interchangeref03_row.j2 kj4 a1 a2 x8_1 t135 t136 3) else (interchangeref03_row.j2 kj4 a1 a2 x8_1 t135 t136 t137)) = some (r1, r2) := H
            have A9 := Aside0.mk A90
            clear A90
            have HC10 := Aside0.mk H
            clear H
            go_upto_if 37 with (first | ((with_reducible refine gate_callee (f := 162) rfl ?_); refine goesL_ (some 32) rfl rfl Tryd.func162 (by kernel_rfl) rfl #[.string x0_4, .int .i64 a1] rfl (by (try simp only [List.map_toArray, List.map_cons, List.map_nil]); first | done | rfl | (simp only [List.length_drop, List.length_take]; rfl)) ?_; (with_reducible refine (IH.out kj4 (by first | (have q1 := HK1.out; have q2 := HJ4.out; omega) | (have q1 := HJ11.out; have q2 := HJ23.out; omega)) x0_4 a1 t135 t136 t137 _ A9.out).mono ?_); rintro e w' ⟨rfl, ⟨nd, rfl⟩⟩; refine ⟨_, rfl, ?_⟩))
            (try simp only [Act.put, List.setIfInBounds_toArray, List.set_cons_zero, List.set_cons_succ])
            go_cut [14] (fun v14 wc => ∃ (kq : Nat) (x14_9 : Int), v14 = .int .i64 x14_9 ∧ Aside0 (interchangeref03_row.j2 kq a1 a2 x8_1 t135 t136 x14_9 = some (r1, r2)) ∧ Aside0 (kq ≤ kj4) ∧ Drawn0 w wc)
            case first =>
              have H := HC10.out
              clear HC10
              by_cases c11 : t137 = 2
              · rw [if_pos c11] at H
                have c11b0 : (t137 == 2) = true := beq_iff_eq.mpr c11
                have c11b1 : (t137 != 2) = false := bne_eq_false_iff_eq.mpr c11
                clear c11
                (first | rw [c11b0] | (simp only [i64_w, i32_w]; rw [c11b0]) | skip)
                have H' := Aside0.mk H
                clear H
                go_wp2
                go_meet
                case rel => exact ⟨_, (3), (by first | rfl | (simp; done) | (simp [*]; done)), H', ⟨by have := HK1.out; have := HJ4.out; first | omega | exact Nat.le_refl _⟩, by repeat (first | exact Drawn0.refl _ | apply Drawn0.step)⟩
              · rw [if_neg c11] at H
                have c11b0 : (t137 == 2) = false := beq_eq_false_iff_ne.mpr c11
                have c11b1 : (t137 != 2) = true := bne_iff_ne.mpr c11
                (first | rw [c11b0] | (simp only [i64_w, i32_w]; rw [c11b0]) | skip)
                have H' := Aside0.mk H
                clear H
                go_wp2
                go_meet
                case rel => exact ⟨_, (t137), (by first | rfl | (simp; done) | (simp [*]; done)), H', ⟨by have := HK1.out; have := HJ4.out; first | omega | exact Nat.le_refl _⟩, by repeat (first | exact Drawn0.refl _ | apply Drawn0.step)⟩
            case rest =>
              clear HC10
              try clear c1
              try clear p2
              try clear c4
              try clear c4b0
              try clear c4b1
              try clear c6
              try clear c8
              try clear c8b0
              try clear c8b1
              try clear c11
              try clear c11b0
              try clear c11b1
              try clear p2
              obtain ⟨kq, x14_9, rfl, HA, HJ9, ⟨mc9, rfl⟩⟩ := hcut
              cases kq with
              | zero => exact absurd HA.out (by simp [interchangeref03_row.j2])
              | succ kj9 =>
                have H := HA.out
                clear HA
                simp only [interchangeref03_row.j2] at H
                by_cases c12 : x14_9 = 0
                · rw [if_pos c12] at H
                  have c12b0 : (x14_9 == 0) = true := beq_iff_eq.mpr c12
                  have c12b1 : (x14_9 != 0) = false := bne_eq_false_iff_eq.mpr c12
                  clear c12
                  by_cases c13 : t136 > x8_1
                  · rw [if_pos c13] at H
                    have c13b0 : decide (x8_1 < t136) = true := decide_eq_true c13
                    clear c13
                    have H' := Aside0.mk H
                    clear H
                    go_wp2
                    go_roundg kj9
                    case measure => have := HK1.out; have := HJ4.out; have := HJ9.out; omega
                    case rel => exact ⟨(t135), (t136), (by first | rfl | (simp; done) | (simp [*]; done)), (by first | rfl | (simp; done) | (simp [*]; done)), H', ⟨by have := HK1.out; have := HJ4.out; have := HJ9.out; omega⟩, by repeat (first | exact Drawn0.refl _ | apply Drawn0.step)⟩
                  · rw [if_neg c13] at H
                    have c13b0 : decide (x8_1 < t136) = false := decide_eq_false c13
                    clear c13
                    have H' := Aside0.mk H
                    clear H
                    go_wp2
                    go_roundg kj9
                    case measure => have := HK1.out; have := HJ4.out; have := HJ9.out; omega
                    case rel => exact ⟨(t135), (x8_1), (by first | rfl | (simp; done) | (simp [*]; done)), (by first | rfl | (simp; done) | (simp [*]; done)), H', ⟨by have := HK1.out; have := HJ4.out; have := HJ9.out; omega⟩, by repeat (first | exact Drawn0.refl _ | apply Drawn0.step)⟩
                · rw [if_neg c12] at H
                  have c12b0 : (x14_9 == 0) = false := beq_eq_false_iff_ne.mpr c12
                  have c12b1 : (x14_9 != 0) = true := bne_iff_ne.mpr c12
                  simp only [Option.some.injEq, Prod.mk.injEq] at H
                  obtain ⟨rfl, rfl⟩ := H
                  go_wp2
                  go_ret2
                  exact ⟨by first | rfl | (simp; done) | (simp [*]; done), by repeat (first | exact Drawn0.refl _ | apply Drawn0.step)⟩
      · rw [if_neg c4] at H
        have c4b0 : decide (0 < (x0_1.size : Int)) = false := decide_eq_false c4
        have c4b1 : decide (0 < x0_1.size) = false := decide_eq_false (by omega)
        clear c4
        simp only [Option.some.injEq, Prod.mk.injEq] at H
        obtain ⟨rfl, rfl⟩ := H
        go_wp2
        go_ret2
        exact ⟨by first | rfl | (simp; done) | (simp [*]; done), by repeat (first | exact Drawn0.refl _ | apply Drawn0.step)⟩

theorem ref03_all (k : Nat) : Value03 k ∧ Row03 k := by
  induction k using Nat.strongRecOn with
  | ind k ih =>
    cases k with
    | zero => exact ⟨fun a0 a1 r1 r2 r3 w h => by simp [interchangeref03_value.f] at h, fun a0 a1 a2 r1 r2 w h => by simp [interchangeref03_row.f] at h⟩
    | succ k => exact ⟨fun a0 a1 r1 r2 r3 w h => value03_step k (Lib.hid fun j hj => (ih j (by omega)).2) a0 a1 r1 r2 r3 w h, fun a0 a1 a2 r1 r2 w h => row03_step k (Lib.hid fun j hj => (ih j (by omega)).1) a0 a1 a2 r1 r2 w h⟩
theorem interchangeref03_value.calls (k : Nat) (a0 : ByteArray) (a1 : Int) (r1 : ByteArray) (r2 r3 : Int) (w : World) (h : interchangeref03_value.f k a0 a1 = some (r1, r2, r3)) :
    Calls Tryd.prog 162 #[.string a0, .int .i64 a1] w fun e w' => e = .returned (.tuple #[.string r1, .int .i64 r2, .int .i64 r3]) ∧ Drawn0 w w' := (ref03_all k).1 a0 a1 r1 r2 r3 w h
theorem interchangeref03_row.calls (k : Nat) (a0 : ByteArray) (a1 : Int) (a2 : Bool) (r1 r2 : Int) (w : World) (h : interchangeref03_row.f k a0 a1 a2 = some (r1, r2)) :
    Calls Tryd.prog 149 #[.string a0, .int .i64 a1, .bool a2] w fun e w' => e = .returned (.tuple #[.int .i64 r1, .int .i64 r2]) ∧ Drawn0 w w' := (ref03_all k).2 a0 a1 a2 r1 r2 w h
end Go.Proofs.YtdogcnadopepmaaDoor.M
