/- Laid by a program of this session's (hyb.py) over the kit's print: functions and their contracts, some callees' contracts being typed by hand. -/
import Derived.Test.YtdogcnadopepmaaDoorH0
namespace Go.Proofs.YtdogcnadopepmaaDoor.H
open Go.RowKit Go.Proofs.YtdogcnadopepmaaDoorW.PrintWords Go.Proofs.YtdogcnadopepmaaDoorW.PrintLast Go.Proofs.YtdogcnadopepmaaDoorW.PrintMore
attribute [local go_sem] max2_int min2_int max_two min_two max_three min_three max_four min_four   -- for this text's walks alone
set_option maxRecDepth 100000
set_option linter.unusedVariables false
set_option linter.unusedSimpArgs false

/-- The document's table of methods, as its text has it. -/
abbrev allT : ByteArray := ⟨#[49, 48, 58, 49, 48, 83, 111, 111, 84, 76, 76, 44, 49, 49, 67, 84, 83, 76, 83, 44, 50, 48, 83, 76, 44, 50, 49, 67, 76, 44, 51, 48, 83, 115, 108, 115, 44, 51, 49, 67, 115, 108, 115, 44, 52, 48, 67, 83, 83, 98, 44, 52, 49, 83, 83, 44, 53, 48, 66, 115, 83, 115, 115, 44, 53, 49, 66, 44, 54, 48, 83, 83, 44, 54, 49, 83, 59, 50, 48, 58, 49, 48, 67, 83, 44, 49, 49, 83, 76, 44, 50, 48, 66, 98, 44, 50, 49, 66, 98, 44, 52, 48, 66, 115, 83, 115, 115, 44, 52, 49, 66, 59, 52, 48, 58, 49, 48, 67, 115, 83, 83, 98, 98, 98, 98, 98, 84, 44, 49, 49, 83, 44, 50, 48, 67, 115, 83, 98, 98, 44, 50, 49, 83, 59, 53, 48, 58, 49, 48, 67, 115, 83, 98, 98, 98, 98, 98, 84, 44, 49, 49, 83, 83, 108, 108, 44, 50, 48, 67, 115, 83, 83, 83, 98, 84, 44, 50, 49, 83, 44, 51, 48, 67, 115, 83, 98, 44, 51, 49, 83, 108, 44, 52, 48, 67, 115, 83, 98, 98, 98, 44, 52, 49, 83, 108, 44, 53, 48, 67, 115, 83, 83, 83, 84, 44, 53, 49, 83, 59, 54, 48, 58, 49, 48, 67, 108, 115, 98, 44, 49, 49, 83, 44, 50, 48, 67, 115, 83, 83, 98, 98, 98, 98, 84, 44, 50, 49, 83, 83, 44, 51, 48, 67, 83, 98, 44, 51, 49, 83, 83, 44, 52, 48, 67, 115, 83, 83, 98, 98, 44, 53, 48, 83, 115, 83, 83, 83, 44, 54, 48, 83, 83, 113, 98, 83, 83, 44, 55, 48, 67, 115, 83, 98, 44, 55, 49, 83, 113, 98, 83, 83, 108, 44, 55, 50, 83, 83, 44, 56, 48, 66, 113, 98, 44, 57, 48, 67, 113, 98, 44, 49, 48, 48, 67, 98, 44, 49, 49, 48, 67, 98, 44, 49, 49, 49, 83, 44, 49, 50, 48, 66, 113, 98, 98, 59, 56, 53, 58, 49, 48, 67, 98, 44, 49, 49, 83, 59, 57, 48, 58, 49, 48, 67, 44, 49, 49, 83, 44, 50, 48, 67, 44, 50, 49, 83, 44, 51, 48, 67, 44, 51, 49, 83, 59]⟩
/-! ### interchangeref05_All: function 84 -/
mutual
def interchangeref05_All.l0 : Nat → List (S147) → Int → Int → Option ((List (S147)))
  | 0, _, _, _ => none
  | k + 1, x1, x2, x3 => if x3 < 384 then (interchangeref05_All.l1 k x1 x2 x3 0) else (some x1)
def interchangeref05_All.j2 : Nat → List (S147) → Int → Int → Int → Option ((List (S147)))
  | 0, _, _, _, _ => none
  | k + 1, x1, x2, x3, x4 => if 0 ≤ x3 then (if x3 < 384 then (if (bt allT x3) = 58 then (interchangeref05_All.l0 k x1 x4 (wrap64 (x3 + 1))) else (interchangeref05_All.l2 k x1 x2 (wrap64 (x3 + 1)) x2 x4 (bt allT x3) (⟨#[]⟩ : ByteArray))) else (none)) else (none)
def interchangeref05_All.l2 : Nat → List (S147) → Int → Int → Int → Int → Int → ByteArray → Option ((List (S147)))
  | 0, _, _, _, _, _, _, _ => none
  | k + 1, x1, x2, x3, x111000, x111001, x111002, x111003 => if 0 ≤ x3 then (if x3 < 384 then (if (bt allT x3) = 44 then (if x1.length < 3518437208883 then (interchangeref05_All.l0 k (x1 ++ [(⟨x111000, x111001, x111002, x111003⟩ : S147)]) x2 (wrap64 (x3 + 1))) else (none)) else (if (bt allT x3) = 59 then (if x1.length < 3518437208883 then (interchangeref05_All.l0 k (x1 ++ [(⟨x111000, x111001, x111002, x111003⟩ : S147)]) x2 (wrap64 (x3 + 1))) else (none)) else ((some (([bt allT x3] : List Int) : List Int)).bind fun y117 => (if x111003.size + (strOfNums y117).size ≤ 9223372036854775807 then (interchangeref05_All.l2 k x1 x2 (wrap64 (x3 + 1)) x111000 x111001 x111002 (x111003 ++ (strOfNums y117))) else (none))))) else (none)) else (none)
def interchangeref05_All.l1 : Nat → List (S147) → Int → Int → Int → Option ((List (S147)))
  | 0, _, _, _, _ => none
  | k + 1, x1, x2, x3, x4 => if 0 ≤ x3 then (if x3 < 384 then (if (bt allT x3) ≥ 48 then (if (bt allT x3) ≤ 57 then (interchangeref05_All.l1 k x1 x2 (wrap64 (x3 + 1)) (wrap64 ((wrap64 (10 * x4)) + (((bt allT x3) - 48) % 256)))) else (interchangeref05_All.j2 k x1 x2 x3 x4)) else (interchangeref05_All.j2 k x1 x2 x3 x4)) else (none)) else (none)
end
def interchangeref05_All.f (k : Nat)  : Option ((List (S147))) := interchangeref05_All.l0 k ([] : List (S147)) 0 0
theorem interchangeref05_All.mono_l : ∀ k, (∀ y0 y1 y2, LeO (interchangeref05_All.l0 k y0 y1 y2) (interchangeref05_All.l0 (k + 1) y0 y1 y2)) ∧ (∀ y0 y1 y2 y3, LeO (interchangeref05_All.j2 k y0 y1 y2 y3) (interchangeref05_All.j2 (k + 1) y0 y1 y2 y3)) ∧ (∀ y0 y1 y2 y3 y4 y5 y6, LeO (interchangeref05_All.l2 k y0 y1 y2 y3 y4 y5 y6) (interchangeref05_All.l2 (k + 1) y0 y1 y2 y3 y4 y5 y6)) ∧ (∀ y0 y1 y2 y3, LeO (interchangeref05_All.l1 k y0 y1 y2 y3) (interchangeref05_All.l1 (k + 1) y0 y1 y2 y3))
  | 0 => ⟨fun _ _ _ r h => by simp [interchangeref05_All.l0] at h, fun _ _ _ _ r h => by simp [interchangeref05_All.j2] at h, fun _ _ _ _ _ _ _ r h => by simp [interchangeref05_All.l2] at h, fun _ _ _ _ r h => by simp [interchangeref05_All.l1] at h⟩
  | k + 1 => by
    obtain ⟨ih0, ih1, ih2, ih3⟩ := interchangeref05_All.mono_l k
    refine ⟨?_, ?_, ?_, ?_⟩
    · intro y0 y1 y2
      unfold interchangeref05_All.l0
      repeat' first
      | (with_reducible exact ih0 _ _ _)
      | (with_reducible exact ih1 _ _ _ _)
      | (with_reducible exact ih2 _ _ _ _ _ _ _)
      | (with_reducible exact ih3 _ _ _ _)
      | (with_reducible exact LeO.refl _)
      | (with_reducible exact LeO.none _)
      | (with_reducible refine LeO.ite ?_ ?_)
      | (with_reducible refine LeO.bind ?_ (fun _ => ?_))
      | exact ih0 _ _ _
      | exact ih1 _ _ _ _
      | exact ih2 _ _ _ _ _ _ _
      | exact ih3 _ _ _ _
      | exact LeO.none _
      | refine LeO.ite ?_ ?_
      | refine LeO.bind ?_ (fun _ => ?_)
    · intro y0 y1 y2 y3
      unfold interchangeref05_All.j2
      repeat' first
      | (with_reducible exact ih0 _ _ _)
      | (with_reducible exact ih1 _ _ _ _)
      | (with_reducible exact ih2 _ _ _ _ _ _ _)
      | (with_reducible exact ih3 _ _ _ _)
      | (with_reducible exact LeO.refl _)
      | (with_reducible exact LeO.none _)
      | (with_reducible refine LeO.ite ?_ ?_)
      | (with_reducible refine LeO.bind ?_ (fun _ => ?_))
      | exact ih0 _ _ _
      | exact ih1 _ _ _ _
      | exact ih2 _ _ _ _ _ _ _
      | exact ih3 _ _ _ _
      | exact LeO.none _
      | refine LeO.ite ?_ ?_
      | refine LeO.bind ?_ (fun _ => ?_)
    · intro y0 y1 y2 y3 y4 y5 y6
      unfold interchangeref05_All.l2
      repeat' first
      | (with_reducible exact ih0 _ _ _)
      | (with_reducible exact ih1 _ _ _ _)
      | (with_reducible exact ih2 _ _ _ _ _ _ _)
      | (with_reducible exact ih3 _ _ _ _)
      | (with_reducible exact LeO.refl _)
      | (with_reducible exact LeO.none _)
      | (with_reducible refine LeO.ite ?_ ?_)
      | (with_reducible refine LeO.bind ?_ (fun _ => ?_))
      | exact ih0 _ _ _
      | exact ih1 _ _ _ _
      | exact ih2 _ _ _ _ _ _ _
      | exact ih3 _ _ _ _
      | exact LeO.none _
      | refine LeO.ite ?_ ?_
      | refine LeO.bind ?_ (fun _ => ?_)
    · intro y0 y1 y2 y3
      unfold interchangeref05_All.l1
      repeat' first
      | (with_reducible exact ih0 _ _ _)
      | (with_reducible exact ih1 _ _ _ _)
      | (with_reducible exact ih2 _ _ _ _ _ _ _)
      | (with_reducible exact ih3 _ _ _ _)
      | (with_reducible exact LeO.refl _)
      | (with_reducible exact LeO.none _)
      | (with_reducible refine LeO.ite ?_ ?_)
      | (with_reducible refine LeO.bind ?_ (fun _ => ?_))
      | exact ih0 _ _ _
      | exact ih1 _ _ _ _
      | exact ih2 _ _ _ _ _ _ _
      | exact ih3 _ _ _ _
      | exact LeO.none _
      | refine LeO.ite ?_ ?_
      | refine LeO.bind ?_ (fun _ => ?_)
theorem interchangeref05_All.mono : ∀ k, LeO (interchangeref05_All.f k ) (interchangeref05_All.f (k + 1) ) := by
  intro  k
  obtain ⟨ih0, ih1, ih2, ih3⟩ := interchangeref05_All.mono_l k
  unfold interchangeref05_All.f
  repeat' first
      | (with_reducible exact ih0 _ _ _)
      | (with_reducible exact ih1 _ _ _ _)
      | (with_reducible exact ih2 _ _ _ _ _ _ _)
      | (with_reducible exact ih3 _ _ _ _)
      | (with_reducible exact LeO.refl _)
      | (with_reducible exact LeO.none _)
      | (with_reducible refine LeO.ite ?_ ?_)
      | (with_reducible refine LeO.bind ?_ (fun _ => ?_))
      | exact ih0 _ _ _
      | exact ih1 _ _ _ _
      | exact ih2 _ _ _ _ _ _ _
      | exact ih3 _ _ _ _
      | exact LeO.none _
      | refine LeO.ite ?_ ?_
      | refine LeO.bind ?_ (fun _ => ?_)
def interchangeref05_All.T15 : Bool × List (List Nat × List Nat) := (true, [([], []), ([0], [0]), ([], []), ([2], [2]), ([3], [3]), ([4], [4]), ([1, 5], [1, 5]), ([0, 1, 2, 3, 4, 5, 6], []), ([7, 6, 0, 1, 2, 3, 4, 5, 6], [6, 7])])
def interchangeref05_All.B15 : List Nat := [0, 1, 0, 4, 12, 28, 63, 127, 255]
theorem interchangeref05_All.tab15 : rtab .any (opsOf Tryd.f84 15) = interchangeref05_All.T15 := by kernel_rfl
theorem interchangeref05_All.bits15 : waitsOk interchangeref05_All.T15.2 interchangeref05_All.B15 = true := by kernel_rfl
set_option maxHeartbeats 8000000 in
set_option maxRecDepth 100000 in
theorem interchangeref05_All.calls (k : Nat)  (r : List (S147)) (w : World) (h : interchangeref05_All.f k  = some r) :
    Calls Tryd.prog 84 #[] w fun e w' => ∃ v0_ : Value, e = .returned (v0_) ∧ Kd.R k147 147 w' w.heap.size (fun _ => True) v0_ r ∧ Below w.heap.size w w' := by
  have hu147 := Tryd.underlying147
  have HB := Aside0.mk (Below.refl w.heap.size w)
  have H : (interchangeref05_All.l0 k ([] : List (S147)) 0 0) = some r := h
  clear h
  have H' := Aside0.mk H
  clear H
  go_enter Tryd.func84, Tryd.ntmps84
  go_wp2
  go_loopg [1, 2, 3] k (fun kq v1 v2 v3 w' => ∃ (x1_1 : List (S147)) (x2_1 : Int) (x3_1 : Int), v2 = .int .i64 x2_1 ∧ v3 = .int .i64 x3_1 ∧ Aside0 (interchangeref05_All.l0 kq x1_1 x2_1 x3_1 = some r) ∧ Aside0 (kq ≤ k) ∧ Aside0 (Kd.R k147 147 w' w.heap.size (fun _ => True) v1 x1_1) ∧ Aside0 (Below w.heap.size w w'))
  case atStart => exact ⟨(([] : List (S147))), (0), (0), (by first | rfl | (simp; done) | (simp [*]; done)), (by first | rfl | (simp; done) | (simp [*]; done)), H', ⟨Nat.le_refl _⟩, ⟨by first | exact Kd.R_nil _ _ _ _ _ | exact Kd.N_nil _ _ _ _ _ | exact Kd.V_nil _ _ _ _ _ | exact Kd.Q_nil _ _ _ _ _ | exact Kd.S_nil _ _ _ _ _⟩, ⟨by repeat (first | (with_reducible first | exact HB.out | apply below_alloc | apply pw_below_drewN | apply below_drew1) | exact HB.out)⟩⟩
  case round =>
    clear H'
    obtain ⟨x1_1, x2_1, x3_1, rfl, rfl, HA, HK1, HO_1, HB⟩ := hrel
    cases gk with
    | zero => exact absurd HA.out (by simp [interchangeref05_All.l0])
    | succ k1 =>
      have H := HA.out
      clear HA
      simp only [interchangeref05_All.l0] at H
      by_cases c1 : x3_1 < 384
      · rw [if_pos c1] at H
        have c1b0 : decide (x3_1 < 384) = true := decide_eq_true c1
        clear c1
        have HC2 := Aside0.mk H
        clear H
        go_upto_block 2 with (fail)
        go_cut [3, 4] (fun v3 v4 wc => ∃ (kq : Nat) (x3_1 : Int) (x4_1 : Int), v3 = .int .i64 x3_1 ∧ v4 = .int .i64 x4_1 ∧ Aside0 (interchangeref05_All.j2 kq x1_1 x2_1 x3_1 x4_1 = some r) ∧ Aside0 (kq ≤ k1) ∧ Aside0 (Kd.R k147 147 wc w.heap.size (fun _ => True) u1 x1_1) ∧ Aside0 (Below w.heap.size w wc))
        case first =>
          have H := HC2.out
          clear HC2
          have H' := Aside0.mk H
          clear H
          go_wp2
          go_loopg [3, 4] k1 (fun kq v3 v4 w' => ∃ (x3_2 : Int) (x4_2 : Int), v3 = .int .i64 x3_2 ∧ v4 = .int .i64 x4_2 ∧ Aside0 (interchangeref05_All.l1 kq x1_1 x2_1 x3_2 x4_2 = some r) ∧ Aside0 (kq ≤ k1) ∧ Aside0 (Kd.R k147 147 w' w.heap.size (fun _ => True) u1 x1_1) ∧ Aside0 (Below w.heap.size w w'))
          case atStart => exact ⟨(x3_1), (0), (by first | rfl | (simp; done) | (simp [*]; done)), (by first | rfl | (simp; done) | (simp [*]; done)), H', ⟨Nat.le_refl _⟩, ⟨by (with_reducible repeat (first | apply Kd.R_alloc | apply Kd.R_drewN | apply Kd.R_drew)); exact HO_1.out⟩, ⟨by repeat (first | (with_reducible first | exact HB.out | apply below_alloc | apply pw_below_drewN | apply below_drew1) | exact HB.out)⟩⟩
          case round =>
            clear H'
            try clear c1
            try clear c1b0
            try clear p2
            obtain ⟨x3_2, x4_2, rfl, rfl, HA, HK2, HO_1, HB⟩ := hrel
            cases gk with
            | zero => exact absurd HA.out (by simp [interchangeref05_All.l1])
            | succ k2 =>
              have H := HA.out
              clear HA
              simp only [interchangeref05_All.l1] at H
              by_cases c3 : 0 ≤ x3_2
              · rw [if_pos c3] at H
                have c3b0 : decide (0 ≤ x3_2) = true := decide_eq_true c3
                clear c3
                (first | rw [c3b0] | (simp only [i64_w, i32_w]; rw [c3b0]) | skip)
                by_cases c4 : x3_2 < 384
                · rw [if_pos c4] at H
                  have c4b0 : decide (x3_2 < 384) = true := decide_eq_true c4
                  clear c4
                  by_cases c6 : (bt allT x3_2) ≥ 48
                  · rw [if_pos c6] at H
                    have c6b0 : decide (48 ≤ (bt allT x3_2)) = true := decide_eq_true c6
                    clear c6
                    by_cases c8 : (bt allT x3_2) ≤ 57
                    · rw [if_pos c8] at H
                      have c8b0 : decide ((bt allT x3_2) ≤ 57) = true := decide_eq_true c8
                      clear c8
                      have H' := Aside0.mk H
                      clear H
                      have p5 : 0 ≤ (x3_2 : Int) := of_decide_eq_true (by first | (with_reducible assumption) | assumption)
                      have q5 : x3_2 < (384 : Int) := of_decide_eq_true (by first | (with_reducible assumption) | assumption)
                      have hx5 := bt_at allT x3_2
                      replace p5 := eq_true p5
                      replace q5 := eq_true q5
                      have p7 : 0 ≤ (x3_2 : Int) := of_decide_eq_true (by first | (with_reducible assumption) | assumption)
                      have q7 : x3_2 < (384 : Int) := of_decide_eq_true (by first | (with_reducible assumption) | assumption)
                      have hx7 := bt_at allT x3_2
                      replace p7 := eq_true p7
                      replace q7 := eq_true q7
                      have p9 : 0 ≤ (x3_2 : Int) := of_decide_eq_true (by first | (with_reducible assumption) | assumption)
                      have q9 : x3_2 < (384 : Int) := of_decide_eq_true (by first | (with_reducible assumption) | assumption)
                      have hx9 := bt_at allT x3_2
                      replace p9 := eq_true p9
                      replace q9 := eq_true q9
                      go_wp2
                      go_roundg k2
                      case measure => have := HK1.out; have := HK2.out; omega
                      case rel => exact ⟨(wrap64 (x3_2 + 1)), (wrap64 ((wrap64 (10 * x4_2)) + (((bt allT x3_2) - 48) % 256))), (by first | rfl | (simp; done) | (simp [*]; done)), (by first | rfl | (simp; done) | (simp [*]; done)), H', ⟨by have := HK1.out; have := HK2.out; omega⟩, ⟨by (with_reducible repeat (first | apply Kd.R_alloc | apply Kd.R_drewN | apply Kd.R_drew)); exact HO_1.out⟩, ⟨by repeat (first | (with_reducible first | exact HB.out | apply below_alloc | apply pw_below_drewN | apply below_drew1) | exact HB.out)⟩⟩
                    · rw [if_neg c8] at H
                      have c8b0 : decide ((bt allT x3_2) ≤ 57) = false := decide_eq_false c8
                      clear c8
                      have H' := Aside0.mk H
                      clear H
                      have p5 : 0 ≤ (x3_2 : Int) := of_decide_eq_true (by first | (with_reducible assumption) | assumption)
                      have q5 : x3_2 < (384 : Int) := of_decide_eq_true (by first | (with_reducible assumption) | assumption)
                      have hx5 := bt_at allT x3_2
                      replace p5 := eq_true p5
                      replace q5 := eq_true q5
                      have p7 : 0 ≤ (x3_2 : Int) := of_decide_eq_true (by first | (with_reducible assumption) | assumption)
                      have q7 : x3_2 < (384 : Int) := of_decide_eq_true (by first | (with_reducible assumption) | assumption)
                      have hx7 := bt_at allT x3_2
                      replace p7 := eq_true p7
                      replace q7 := eq_true q7
                      go_wp2
                      go_meet
                      case rel => exact ⟨_, (x3_2), (x4_2), (by first | rfl | (simp; done) | (simp [*]; done)), (by first | rfl | (simp; done) | (simp [*]; done)), H', ⟨by have := HK1.out; have := HK2.out; first | omega | exact Nat.le_refl _⟩, ⟨by (with_reducible repeat (first | apply Kd.R_alloc | apply Kd.R_drewN | apply Kd.R_drew)); exact HO_1.out⟩, ⟨by repeat (first | (with_reducible first | exact HB.out | apply below_alloc | apply pw_below_drewN | apply below_drew1) | exact HB.out)⟩⟩
                  · rw [if_neg c6] at H
                    have c6b0 : decide (48 ≤ (bt allT x3_2)) = false := decide_eq_false c6
                    clear c6
                    have H' := Aside0.mk H
                    clear H
                    have p5 : 0 ≤ (x3_2 : Int) := of_decide_eq_true (by first | (with_reducible assumption) | assumption)
                    have q5 : x3_2 < (384 : Int) := of_decide_eq_true (by first | (with_reducible assumption) | assumption)
                    have hx5 := bt_at allT x3_2
                    replace p5 := eq_true p5
                    replace q5 := eq_true q5
                    go_wp2
                    go_meet
                    case rel => exact ⟨_, (x3_2), (x4_2), (by first | rfl | (simp; done) | (simp [*]; done)), (by first | rfl | (simp; done) | (simp [*]; done)), H', ⟨by have := HK1.out; have := HK2.out; first | omega | exact Nat.le_refl _⟩, ⟨by (with_reducible repeat (first | apply Kd.R_alloc | apply Kd.R_drewN | apply Kd.R_drew)); exact HO_1.out⟩, ⟨by repeat (first | (with_reducible first | exact HB.out | apply below_alloc | apply pw_below_drewN | apply below_drew1) | exact HB.out)⟩⟩
                · rw [if_neg c4] at H
                  exact absurd H (by simp)
              · rw [if_neg c3] at H
                exact absurd H (by simp)
        case rest =>
          clear HC2
          try clear c1
          try clear c1b0
          try clear p2
          try clear c3
          try clear c3b0
          try clear c4
          try clear c4b0
          try clear p5
          try clear q5
          try clear hx5
          try clear c6
          try clear c6b0
          try clear p6
          try clear p7
          try clear q7
          try clear hx7
          try clear c8
          try clear c8b0
          try clear p9
          try clear q9
          try clear hx9
          try clear p2
          try clear p5
          try clear p7
          try clear p9
          try clear q5
          try clear q7
          try clear q9
          obtain ⟨kq, x3_1, x4_1, rfl, rfl, HA, HJ1, HO_1, HB⟩ := hcut
          cases kq with
          | zero => exact absurd HA.out (by simp [interchangeref05_All.j2])
          | succ kj1 =>
            have H := HA.out
            clear HA
            simp only [interchangeref05_All.j2] at H
            by_cases c10 : 0 ≤ x3_1
            · rw [if_pos c10] at H
              have c10b0 : decide (0 ≤ x3_1) = true := decide_eq_true c10
              clear c10
              by_cases c11 : x3_1 < 384
              · rw [if_pos c11] at H
                have c11b0 : decide (x3_1 < 384) = true := decide_eq_true c11
                clear c11
                by_cases c13 : (bt allT x3_1) = 58
                · rw [if_pos c13] at H
                  have c13b0 : ((bt allT x3_1) == 58) = true := beq_iff_eq.mpr c13
                  have c13b1 : ((bt allT x3_1) != 58) = false := bne_eq_false_iff_eq.mpr c13
                  clear c13
                  have H' := Aside0.mk H
                  clear H
                  have p12 : 0 ≤ (x3_1 : Int) := of_decide_eq_true (by first | (with_reducible assumption) | assumption)
                  have q12 : x3_1 < (384 : Int) := of_decide_eq_true (by first | (with_reducible assumption) | assumption)
                  have hx12 := bt_at allT x3_1
                  replace p12 := eq_true p12
                  replace q12 := eq_true q12
                  go_wp2
                  go_roundg kj1
                  case measure => have := HK1.out; have := HJ1.out; omega
                  case rel => exact ⟨(x1_1), (x4_1), (wrap64 (x3_1 + 1)), (by first | rfl | (simp; done) | (simp [*]; done)), (by first | rfl | (simp; done) | (simp [*]; done)), H', ⟨by have := HK1.out; have := HJ1.out; omega⟩, ⟨by (with_reducible repeat (first | apply Kd.R_alloc | apply Kd.R_drewN | apply Kd.R_drew)); exact HO_1.out⟩, ⟨by repeat (first | (with_reducible first | exact HB.out | apply below_alloc | apply pw_below_drewN | apply below_drew1) | exact HB.out)⟩⟩
                · rw [if_neg c13] at H
                  have c13b0 : ((bt allT x3_1) == 58) = false := beq_eq_false_iff_ne.mpr c13
                  have c13b1 : ((bt allT x3_1) != 58) = true := bne_iff_ne.mpr c13
                  have H' := Aside0.mk H
                  clear H
                  have p12 : 0 ≤ (x3_1 : Int) := of_decide_eq_true (by first | (with_reducible assumption) | assumption)
                  have q12 : x3_1 < (384 : Int) := of_decide_eq_true (by first | (with_reducible assumption) | assumption)
                  have hx12 := bt_at allT x3_1
                  replace p12 := eq_true p12
                  replace q12 := eq_true q12
                  have p14 : 0 ≤ (x3_1 : Int) := of_decide_eq_true (by first | (with_reducible assumption) | assumption)
                  have q14 : x3_1 < (384 : Int) := of_decide_eq_true (by first | (with_reducible assumption) | assumption)
                  have hx14 := bt_at allT x3_1
                  replace p14 := eq_true p14
                  replace q14 := eq_true q14
                  go_wp2_with (first | ((with_reducible refine gate_dst (N := 5) rfl ?_); refine box_event ?hg (N := 5) ?hd (cs := #[.int .i64 0, .int .i64 0, .int .u8 0, .string (⟨#[]⟩ : ByteArray)]) (t := 147) ?hr ?_; (case hd => rfl); (case hg => rfl); (case hr => first | (go_simp; done) | (go_simp; rfl)); intro gb110 hg w15 hbox hb; have n0_ := Aside0.mk (Kd.R_below (Kd.R_elderB (by (with_reducible repeat (first | apply Kd.R_alloc | apply Kd.R_drewN | apply Kd.R_drew)); exact HO_1.out) gb110 (Nat.le_of_eq hg.symm)) hb); have n1_ := Aside0.mk (below_step (by repeat (first | (with_reducible first | exact HB.out | apply below_alloc | apply pw_below_drewN | apply below_drew1) | exact HB.out)) hb); have n2_ := Aside0.mk (hbox); have n3_ := Aside0.mk ((by rw [hg]; exact (below_size (by repeat (first | (with_reducible first | exact HB.out | apply below_alloc | apply pw_below_drewN | apply below_drew1) | exact HB.out))) : w.heap.size ≤ gb110)); have n4_ := Aside0.mk ((by rw [hg]; exact (below_size (by repeat (first | (with_reducible first | exact HB.out | apply below_alloc | apply pw_below_drewN | apply below_drew1) | exact HB.out))) : w.heap.size ≤ gb110)); clear HO_1; clear HB; have HO_1 := n0_; have HB := n1_; have BK110 := n2_; have GW110 := n3_; have GE110 := n4_; clear n0_ n1_ n2_ n3_ n4_; clear hb hbox hg; have hcz16_0 : w15.cell? ⟨gb110, 0, none⟩ = some (.int .i64 0) := (blk_cell BK110.out 0).trans rfl; have hcz16_1 : w15.cell? ⟨gb110, 1, none⟩ = some (.int .i64 0) := (blk_cell BK110.out 1).trans rfl; have hcz16_2 : w15.cell? ⟨gb110, 2, none⟩ = some (.int .u8 0) := (blk_cell BK110.out 2).trans rfl; have hcz16_3 : w15.cell? ⟨gb110, 3, none⟩ = some (.string (⟨#[]⟩ : ByteArray)) := (blk_cell BK110.out 3).trans rfl; have hfz16_0 := blk_frozen BK110.out 0; have hfz16_1 := blk_frozen BK110.out 1; have hfz16_2 := blk_frozen BK110.out 2; have hfz16_3 := blk_frozen BK110.out 3))
                  go_loopg [3] kj1 (fun kq v3 w' => ∃ (x3_3 : Int) (x111003_3 : ByteArray), v3 = .int .i64 x3_3 ∧ Aside0 (interchangeref05_All.l2 kq x1_1 x2_1 x3_3 x2_1 x4_1 (bt allT x3_1) x111003_3 = some r) ∧ Aside0 (kq ≤ kj1) ∧ Aside0 (Kd.R k147 147 w' w.heap.size (fun k_ => k_ ≠ gb110) u1 x1_1) ∧ Aside0 (w'.heap[gb110]? = some (.cells #[.int .i64 x2_1, .int .i64 x4_1, .int .u8 (bt allT x3_1), .string x111003_3] 147 (0, 0))) ∧ Aside0 (Below w.heap.size w w'))
                  case atStart => exact ⟨(wrap64 (x3_1 + 1)), ((⟨#[]⟩ : ByteArray)), (by first | rfl | (simp; done) | (simp [*]; done)), H', ⟨Nat.le_refl _⟩, ⟨by (with_reducible repeat (first | apply Kd.R_alloc | apply Kd.R_drewN | apply Kd.R_drew)); exact Kd.R_mono (Kd.R_far (p := ⟨gb110, 3, none⟩) (Kd.R_far (p := ⟨gb110, 2, none⟩) (Kd.R_far (p := ⟨gb110, 1, none⟩) (Kd.R_far (p := ⟨gb110, 0, none⟩) (Kd.R_mono HO_1.out (fun k_ hk => (⟨hk, hk.2⟩ : _ ∧ k_ ≠ gb110))) (fun _ hk => hk.2) (.int .i64 x2_1)) (fun _ hk => hk.2) (.int .i64 x4_1)) (fun _ hk => hk.2) (.int .u8 (bt allT x3_1))) (fun _ hk => hk.2) (.string (⟨#[]⟩ : ByteArray))) (fun _ hk => hk.1.2)⟩, ⟨by (with_reducible repeat (first | refine blk_drewN ?_ _ | refine blk_drew ?_ | refine blk_alloc ?_ _)); refine blk_put (cs := #[.int .i64 x2_1, .int .i64 x4_1, .int .u8 (bt allT x3_1), .string (⟨#[]⟩ : ByteArray)]) ?_ 3 _ rfl; (with_reducible repeat (first | refine blk_drewN ?_ _ | refine blk_drew ?_ | refine blk_alloc ?_ _)); refine blk_put (cs := #[.int .i64 x2_1, .int .i64 x4_1, .int .u8 0, .string (⟨#[]⟩ : ByteArray)]) ?_ 2 _ rfl; (with_reducible repeat (first | refine blk_drewN ?_ _ | refine blk_drew ?_ | refine blk_alloc ?_ _)); refine blk_put (cs := #[.int .i64 x2_1, .int .i64 0, .int .u8 0, .string (⟨#[]⟩ : ByteArray)]) ?_ 1 _ rfl; (with_reducible repeat (first | refine blk_drewN ?_ _ | refine blk_drew ?_ | refine blk_alloc ?_ _)); refine blk_put (cs := #[.int .i64 0, .int .i64 0, .int .u8 0, .string (⟨#[]⟩ : ByteArray)]) ?_ 0 _ rfl; (with_reducible repeat (first | refine blk_drewN ?_ _ | refine blk_drew ?_ | refine blk_alloc ?_ _)); exact BK110.out⟩, ⟨by repeat (first | (with_reducible first | exact HB.out | apply below_alloc | apply pw_below_drewN | apply below_drew1 | refine below_set ?_ GE110.out) | exact HB.out)⟩⟩
                  case round =>
                    clear H'
                    try clear c1
                    try clear c1b0
                    try clear p1
                    try clear q1
                    try clear hx1
                    try clear p2
                    try clear c3
                    try clear c3b0
                    try clear c4
                    try clear c4b0
                    try clear p5
                    try clear q5
                    try clear hx5
                    try clear c6
                    try clear c6b0
                    try clear p6
                    try clear p7
                    try clear q7
                    try clear hx7
                    try clear c8
                    try clear c8b0
                    try clear p9
                    try clear q9
                    try clear hx9
                    try clear c10
                    try clear c10b0
                    try clear c11
                    try clear c11b0
                    try clear p12
                    try clear q12
                    try clear hx12
                    try clear c13
                    try clear c13b0
                    try clear c13b1
                    try clear p14
                    try clear q14
                    try clear hx14
                    try clear hcz16_0
                    try clear hcz16_1
                    try clear hcz16_2
                    try clear hcz16_3
                    try clear hfz16_0
                    try clear hfz16_1
                    try clear hfz16_2
                    try clear hfz16_3
                    try clear p12
                    try clear p14
                    try clear p2
                    try clear p5
                    try clear p6
                    try clear p7
                    try clear p9
                    try clear q12
                    try clear q14
                    try clear q5
                    try clear q7
                    try clear q9
                    obtain ⟨x3_3, x111003_3, rfl, HA, HK3, HO_1, BK110, HB⟩ := hrel
                    cases gk with
                    | zero => exact absurd HA.out (by simp [interchangeref05_All.l2])
                    | succ k3 =>
                      have H := HA.out
                      clear HA
                      simp only [interchangeref05_All.l2] at H
                      by_cases c17 : 0 ≤ x3_3
                      · rw [if_pos c17] at H
                        have c17b0 : decide (0 ≤ x3_3) = true := decide_eq_true c17
                        clear c17
                        by_cases c18 : x3_3 < 384
                        · rw [if_pos c18] at H
                          have c18b0 : decide (x3_3 < 384) = true := decide_eq_true c18
                          clear c18
                          by_cases c20 : (bt allT x3_3) = 44
                          · rw [if_pos c20] at H
                            have c20b0 : ((bt allT x3_3) == 44) = true := beq_iff_eq.mpr c20
                            have c20b1 : ((bt allT x3_3) != 44) = false := bne_eq_false_iff_eq.mpr c20
                            clear c20
                            by_cases c21 : x1_1.length < 3518437208883
                            · rw [if_pos c21] at H
                              have LMc21 := Aside0.mk c21
                              clear c21
                              obtain ⟨y111, hy111⟩ : ∃ y_ : List (S147), y_ = (x1_1 ++ [(⟨x2_1, x4_1, (bt allT x3_1), x111003_3⟩ : S147)]) := ⟨_, rfl⟩
                              replace H : (interchangeref05_All.l0 k3 y111 x2_1 (wrap64 (x3_3 + 1))) = some r := by first | (rw [hy111]; with_reducible exact H) | (have H2_ := (Option.bind_some _ _).symm.trans H; rw [hy111]; with_reducible exact H2_) | (have H2_ := (Option.bind_some _ _).symm.trans H; with_reducible exact H2_) | with_reducible exact H | (rw [hy111]; exact H) | exact H
                              have Ny111 := Aside0.mk hy111
                              clear hy111
                              have H' := Aside0.mk H
                              clear H
                              have p19 : 0 ≤ (x3_3 : Int) := of_decide_eq_true (by first | (with_reducible assumption) | assumption)
                              have q19 : x3_3 < (384 : Int) := of_decide_eq_true (by first | (with_reducible assumption) | assumption)
                              have hx19 := bt_at allT x3_3
                              replace p19 := eq_true p19
                              replace q19 := eq_true q19
                              have hcz22_0 : wr.cell? ⟨gb110, 0, none⟩ = some (.int .i64 x2_1) := (blk_cell BK110.out 0).trans rfl
                              have hcz22_1 : wr.cell? ⟨gb110, 1, none⟩ = some (.int .i64 x4_1) := (blk_cell BK110.out 1).trans rfl
                              have hcz22_2 : wr.cell? ⟨gb110, 2, none⟩ = some (.int .u8 (bt allT x3_1)) := (blk_cell BK110.out 2).trans rfl
                              have hcz22_3 : wr.cell? ⟨gb110, 3, none⟩ = some (.string x111003_3) := (blk_cell BK110.out 3).trans rfl
                              have hfz22_0 := blk_frozen BK110.out 0
                              have hfz22_1 := blk_frozen BK110.out 1
                              have hfz22_2 := blk_frozen BK110.out 2
                              have hfz22_3 := blk_frozen BK110.out 3
                              go_wp2_with (first | ((with_reducible refine gate_builtin (b := .append) (xs := #[.tmp 58, .tmp 60]) rfl ?_); at_builtin; refine Kd.R_append k147 (w0 := w) w.heap.size rfl (.tmp 58) (.tmp 60) 144 147 (.agg #[(.int .i64 0), (.int .i64 0), (.int .u8 0), (.string ⟨#[]⟩)]) 40 rfl Tryd.underlying144 info147 rfl (by decide) (by omega) u1 x1_1 (⟨x2_1, x4_1, (bt allT x3_1), x111003_3⟩ : S147) [.int .i64 x2_1, .int .i64 x4_1, .int .u8 (bt allT x3_1), .string x111003_3] (fun k_ => k_ ≠ gb110) (fun _ => False) rfl rfl ?aP (fun _ hk => hk.elim) ?aF ?aO ?aB ?aS ?aL ?_; (case aP => exact k147_mkM _ _ _ (⟨x2_1, x4_1, (bt allT x3_1), x111003_3⟩ : S147)); (case aB => exact (by repeat (first | (with_reducible first | exact HB.out | apply below_alloc | apply pw_below_drewN | apply below_drew1 | refine below_set ?_ GE110.out) | exact HB.out))); (case aF => exact (fun k_ hk => Kd.freshB (g := gb110) (o := .cells #[.int .i64 x2_1, .int .i64 x4_1, .int .u8 (bt allT x3_1), .string x111003_3] 147 (0, 0)) (by (with_reducible repeat (first | refine blk_drewN ?_ _ | refine blk_drew ?_ | refine blk_alloc ?_ _)); exact BK110.out) k_ hk)); (case aO => exact (by (with_reducible repeat (first | apply Kd.R_alloc | apply Kd.R_drewN | apply Kd.R_drew)); exact HO_1.out)); (case aS => exact (below_size (by repeat (first | (with_reducible first | exact HB.out | apply below_alloc | apply pw_below_drewN | apply below_drew1 | refine below_set ?_ GE110.out) | exact HB.out)))); (case aL => have := LMc21.out; omega); intro v112 w23 ho hb hg hat; rw [← Ny111.out] at ho; have n0_ := Aside0.mk (blk_grown (g := gb110) (o := .cells #[.int .i64 x2_1, .int .i64 x4_1, .int .u8 (bt allT x3_1), .string x111003_3] 147 (0, 0)) (by (with_reducible repeat (first | refine blk_drewN ?_ _ | refine blk_drew ?_ | refine blk_alloc ?_ _)); exact BK110.out) hg (Kd.R_away HO_1.out (fun _ hk => hk))); have n1_ := Aside0.mk (hb); have n2_ := Aside0.mk (ho); clear BK110; clear HB; clear HO_1; have BK110 := n0_; have HB := n1_; have HO113 := n2_; clear n0_ n1_ n2_; clear ho hb hg hat))
                              go_roundg k3
                              case measure => have := HK1.out; have := HJ1.out; have := HK3.out; omega
                              case rel => exact ⟨(y111), (x2_1), (wrap64 (x3_3 + 1)), (by first | rfl | (simp; done) | (simp [*]; done)), (by first | rfl | (simp; done) | (simp [*]; done)), H', ⟨by have := HK1.out; have := HJ1.out; have := HK3.out; omega⟩, ⟨by (with_reducible repeat (first | apply Kd.R_alloc | apply Kd.R_drewN | apply Kd.R_drew)); exact Kd.R_mono HO113.out (fun _ hk => trivial)⟩, ⟨by repeat (first | (with_reducible first | exact HB.out | apply below_alloc | apply pw_below_drewN | apply below_drew1 | refine below_set ?_ GE110.out) | exact HB.out)⟩⟩
                            · rw [if_neg c21] at H
                              exact absurd H (by simp)
                          · rw [if_neg c20] at H
                            have c20b0 : ((bt allT x3_3) == 44) = false := beq_eq_false_iff_ne.mpr c20
                            have c20b1 : ((bt allT x3_3) != 44) = true := bne_iff_ne.mpr c20
                            by_cases c25 : (bt allT x3_3) = 59
                            · rw [if_pos c25] at H
                              have c25b0 : ((bt allT x3_3) == 59) = true := beq_iff_eq.mpr c25
                              have c25b1 : ((bt allT x3_3) != 59) = false := bne_eq_false_iff_eq.mpr c25
                              clear c25
                              by_cases c26 : x1_1.length < 3518437208883
                              · rw [if_pos c26] at H
                                have LMc26 := Aside0.mk c26
                                clear c26
                                obtain ⟨y114, hy114⟩ : ∃ y_ : List (S147), y_ = (x1_1 ++ [(⟨x2_1, x4_1, (bt allT x3_1), x111003_3⟩ : S147)]) := ⟨_, rfl⟩
                                replace H : (interchangeref05_All.l0 k3 y114 x2_1 (wrap64 (x3_3 + 1))) = some r := by first | (rw [hy114]; with_reducible exact H) | (have H2_ := (Option.bind_some _ _).symm.trans H; rw [hy114]; with_reducible exact H2_) | (have H2_ := (Option.bind_some _ _).symm.trans H; with_reducible exact H2_) | with_reducible exact H | (rw [hy114]; exact H) | exact H
                                have Ny114 := Aside0.mk hy114
                                clear hy114
                                have H' := Aside0.mk H
                                clear H
                                have p19 : 0 ≤ (x3_3 : Int) := of_decide_eq_true (by first | (with_reducible assumption) | assumption)
                                have q19 : x3_3 < (384 : Int) := of_decide_eq_true (by first | (with_reducible assumption) | assumption)
                                have hx19 := bt_at allT x3_3
                                replace p19 := eq_true p19
                                replace q19 := eq_true q19
                                have p24 : 0 ≤ (x3_3 : Int) := of_decide_eq_true (by first | (with_reducible assumption) | assumption)
                                have q24 : x3_3 < (384 : Int) := of_decide_eq_true (by first | (with_reducible assumption) | assumption)
                                have hx24 := bt_at allT x3_3
                                replace p24 := eq_true p24
                                replace q24 := eq_true q24
                                have hcz27_0 : wr.cell? ⟨gb110, 0, none⟩ = some (.int .i64 x2_1) := (blk_cell BK110.out 0).trans rfl
                                have hcz27_1 : wr.cell? ⟨gb110, 1, none⟩ = some (.int .i64 x4_1) := (blk_cell BK110.out 1).trans rfl
                                have hcz27_2 : wr.cell? ⟨gb110, 2, none⟩ = some (.int .u8 (bt allT x3_1)) := (blk_cell BK110.out 2).trans rfl
                                have hcz27_3 : wr.cell? ⟨gb110, 3, none⟩ = some (.string x111003_3) := (blk_cell BK110.out 3).trans rfl
                                have hfz27_0 := blk_frozen BK110.out 0
                                have hfz27_1 := blk_frozen BK110.out 1
                                have hfz27_2 := blk_frozen BK110.out 2
                                have hfz27_3 := blk_frozen BK110.out 3
                                go_wp2_with (first | ((with_reducible refine gate_builtin (b := .append) (xs := #[.tmp 58, .tmp 60]) rfl ?_); at_builtin; refine Kd.R_append k147 (w0 := w) w.heap.size rfl (.tmp 58) (.tmp 60) 144 147 (.agg #[(.int .i64 0), (.int .i64 0), (.int .u8 0), (.string ⟨#[]⟩)]) 40 rfl Tryd.underlying144 info147 rfl (by decide) (by omega) u1 x1_1 (⟨x2_1, x4_1, (bt allT x3_1), x111003_3⟩ : S147) [.int .i64 x2_1, .int .i64 x4_1, .int .u8 (bt allT x3_1), .string x111003_3] (fun k_ => k_ ≠ gb110) (fun _ => False) rfl rfl ?aP (fun _ hk => hk.elim) ?aF ?aO ?aB ?aS ?aL ?_; (case aP => exact k147_mkM _ _ _ (⟨x2_1, x4_1, (bt allT x3_1), x111003_3⟩ : S147)); (case aB => exact (by repeat (first | (with_reducible first | exact HB.out | apply below_alloc | apply pw_below_drewN | apply below_drew1 | refine below_set ?_ GE110.out) | exact HB.out))); (case aF => exact (fun k_ hk => Kd.freshB (g := gb110) (o := .cells #[.int .i64 x2_1, .int .i64 x4_1, .int .u8 (bt allT x3_1), .string x111003_3] 147 (0, 0)) (by (with_reducible repeat (first | refine blk_drewN ?_ _ | refine blk_drew ?_ | refine blk_alloc ?_ _)); exact BK110.out) k_ hk)); (case aO => exact (by (with_reducible repeat (first | apply Kd.R_alloc | apply Kd.R_drewN | apply Kd.R_drew)); exact HO_1.out)); (case aS => exact (below_size (by repeat (first | (with_reducible first | exact HB.out | apply below_alloc | apply pw_below_drewN | apply below_drew1 | refine below_set ?_ GE110.out) | exact HB.out)))); (case aL => have := LMc26.out; omega); intro v115 w28 ho hb hg hat; rw [← Ny114.out] at ho; have n0_ := Aside0.mk (blk_grown (g := gb110) (o := .cells #[.int .i64 x2_1, .int .i64 x4_1, .int .u8 (bt allT x3_1), .string x111003_3] 147 (0, 0)) (by (with_reducible repeat (first | refine blk_drewN ?_ _ | refine blk_drew ?_ | refine blk_alloc ?_ _)); exact BK110.out) hg (Kd.R_away HO_1.out (fun _ hk => hk))); have n1_ := Aside0.mk (hb); have n2_ := Aside0.mk (ho); clear BK110; clear HB; clear HO_1; have BK110 := n0_; have HB := n1_; have HO116 := n2_; clear n0_ n1_ n2_; clear ho hb hg hat))
                                go_roundg k3
                                case measure => have := HK1.out; have := HJ1.out; have := HK3.out; omega
                                case rel => exact ⟨(y114), (x2_1), (wrap64 (x3_3 + 1)), (by first | rfl | (simp; done) | (simp [*]; done)), (by first | rfl | (simp; done) | (simp [*]; done)), H', ⟨by have := HK1.out; have := HJ1.out; have := HK3.out; omega⟩, ⟨by (with_reducible repeat (first | apply Kd.R_alloc | apply Kd.R_drewN | apply Kd.R_drew)); exact Kd.R_mono HO116.out (fun _ hk => trivial)⟩, ⟨by repeat (first | (with_reducible first | exact HB.out | apply below_alloc | apply pw_below_drewN | apply below_drew1 | refine below_set ?_ GE110.out) | exact HB.out)⟩⟩
                              · rw [if_neg c26] at H
                                exact absurd H (by simp)
                            · rw [if_neg c25] at H
                              have c25b0 : ((bt allT x3_3) == 59) = false := beq_eq_false_iff_ne.mpr c25
                              have c25b1 : ((bt allT x3_3) != 59) = true := bne_iff_ne.mpr c25
                              obtain ⟨y117, hy117⟩ : ∃ y_ : List Int, y_ = (([bt allT x3_3] : List Int)) := ⟨_, rfl⟩
                              replace H : (if x111003_3.size + (strOfNums y117).size ≤ 9223372036854775807 then (interchangeref05_All.l2 k3 x1_1 x2_1 (wrap64 (x3_3 + 1)) x2_1 x4_1 (bt allT x3_1) (x111003_3 ++ (strOfNums y117))) else (none)) = some r := by first | (rw [hy117]; with_reducible exact H) | (have H2_ := (Option.bind_some _ _).symm.trans H; rw [hy117]; with_reducible exact H2_) | (have H2_ := (Option.bind_some _ _).symm.trans H; with_reducible exact H2_) | with_reducible exact H | (rw [hy117]; exact H) | exact H
                              have Ny117 := Aside0.mk hy117
                              clear hy117
                              by_cases c30 : x111003_3.size + (strOfNums y117).size ≤ 9223372036854775807
                              · rw [if_pos c30] at H
                                have c30b0 := eq_true c30
                                have c30b1 : decide (x111003_3.size + (strOfNums y117).size ≤ 9223372036854775807) = true := decide_eq_true c30
                                try have c30b2 : (9223372036854775807 < x111003_3.size + (strOfNums y117).size) = False := eq_false (Nat.not_lt.2 c30)
                                have H' := Aside0.mk H
                                clear H
                                have p19 : 0 ≤ (x3_3 : Int) := of_decide_eq_true (by first | (with_reducible assumption) | assumption)
                                have q19 : x3_3 < (384 : Int) := of_decide_eq_true (by first | (with_reducible assumption) | assumption)
                                have hx19 := bt_at allT x3_3
                                replace p19 := eq_true p19
                                replace q19 := eq_true q19
                                have p24 : 0 ≤ (x3_3 : Int) := of_decide_eq_true (by first | (with_reducible assumption) | assumption)
                                have q24 : x3_3 < (384 : Int) := of_decide_eq_true (by first | (with_reducible assumption) | assumption)
                                have hx24 := bt_at allT x3_3
                                replace p24 := eq_true p24
                                replace q24 := eq_true q24
                                try go_wp2
                                have n0_ := Aside0.mk (Kd.R_drew HO_1.out)
                                have n1_ := Aside0.mk (blk_drew BK110.out)
                                have n2_ := Aside0.mk (below_drew1 HB.out)
                                clear HO_1
                                clear BK110
                                clear HB
                                have HO_1 := n0_
                                have BK110 := n1_
                                have HB := n2_
                                clear n0_ n1_ n2_
                                have p29 : 0 ≤ (x3_3 : Int) := of_decide_eq_true (by first | (with_reducible assumption) | assumption)
                                have q29 : x3_3 < (384 : Int) := of_decide_eq_true (by first | (with_reducible assumption) | assumption)
                                have hx29 := bt_at allT x3_3
                                replace p29 := eq_true p29
                                replace q29 := eq_true q29
                                refine start_ (n := 9) (S := fun w' => w'.cell? ⟨gb110, 0, none⟩ = some (.int .i64 x2_1) ∧ w'.cell? ⟨gb110, 1, none⟩ = some (.int .i64 x4_1) ∧ w'.cell? ⟨gb110, 2, none⟩ = some (.int .u8 (bt allT x3_1)) ∧ w'.cell? ⟨gb110, 3, none⟩ = some (.string x111003_3)) (ds := [8]) #[false, false, false, false, false, false, false, false, false] (by kernel_rfl) rfl rfl ⟨(blk_cell BK110.out 0).trans rfl, (blk_cell BK110.out 1).trans rfl, (blk_cell BK110.out 2).trans rfl, (blk_cell BK110.out 3).trans rfl⟩ (fun hHeld => ?_); refine with_tabW interchangeref05_All.tab15 interchangeref05_All.bits15 (fun HT_ HW_ => ?_)
                                generalize wr.drew = w31 at HO_1 BK110 HB hHeld ⊢
                                refine pure_ (i := 0) (N := some 46) (v := ?_) (a' := ?_) #[true, false, false, false, false, false, false, false, false] rfl rfl (any_of HT_.out (by kernel_rfl)) (fun _ _ _ h => h) (Or.inl ⟨by rfl, ?_⟩) ?_ ?_
                                rotate_left
                                · intro w'
                                  go_simp
                                  with_reducible rfl
                                rotate_left
                                · simp only [Act.put, List.setIfInBounds_toArray, List.set_cons_zero, List.set_cons_succ, i64_w, i32_w]
                                  rfl
                                refine pure_ (i := 2) (N := some 48) (v := ?_) (a' := ?_) #[true, false, true, false, false, false, false, false, false] rfl rfl (any_of HT_.out (by kernel_rfl)) (fun _ _ _ h => h) (Or.inl ⟨by rfl, ?_⟩) ?_ ?_
                                rotate_left
                                · intro w'
                                  go_simp
                                  with_reducible rfl
                                rotate_left
                                · simp only [Act.put, List.setIfInBounds_toArray, List.set_cons_zero, List.set_cons_succ, i64_w, i32_w]
                                  rfl
                                refine take_ (i := 1) (N := some 47) (v := ?_) (a' := ?_) #[true, true, true, false, false, false, false, false, false] rfl rfl (take_ofW HT_.out HW_.out (by kernel_rfl)) (fun _ _ _ h => h) (Or.inl ⟨by rfl, ?_⟩) hHeld ?_ ?_
                                rotate_left
                                · rintro w' ⟨s0, s1, s2, s3⟩
                                  go_simp
                                  with_reducible rfl
                                rotate_left
                                · simp only [Act.put, List.setIfInBounds_toArray, List.set_cons_zero, List.set_cons_succ, i64_w, i32_w]
                                  rfl
                                refine take_ (i := 3) (N := some 49) (v := ?_) (a' := ?_) #[true, true, true, true, false, false, false, false, false] rfl rfl (take_ofW HT_.out HW_.out (by kernel_rfl)) (fun _ _ _ h => h) (Or.inl ⟨by rfl, ?_⟩) hHeld ?_ ?_
                                rotate_left
                                · rintro w' ⟨s0, s1, s2, s3⟩
                                  go_simp
                                  with_reducible rfl
                                rotate_left
                                · simp only [Act.put, List.setIfInBounds_toArray, List.set_cons_zero, List.set_cons_succ, i64_w, i32_w]
                                  rfl
                                refine one_ (i := 4) (N := some 50) #[true, true, true, true, true, false, false, false, false] rfl rfl (one_of HT_.out (by kernel_rfl)) (by decide) (fun K hK => ?_)
                                refine Kd.R_lit_step (Kd.int .u8) _ 5 ?hg (N := 50) ?hd (xs := ([bt allT x3_3] : List Int)) (inner := [.int .u8 (bt allT x3_3)]) (ok := fun _ => True) (okp := fun _ => True) ?hr ?hp (fun _ hk => hk) trivial (Below.refl _ _) (Nat.le_refl _) (by simp) ?_; (case hd => rfl); (case hg => rfl); (case hr => first | (go_simp; done) | (go_simp; rfl)); (case hp => exact (Reps.one (show Kd.M (Kd.int .u8) _ _ _ (bt allT x3_3) [.int .u8 (bt allT x3_3)] from rfl) (Reps.none _ _)))
                                intro v118 w32 ho33 hb hg_ hnew_
                                clear hg_ hnew_
                                (first | rw [← Ny117.out] at ho33 | (simp only [Int.reduceToNat] at ho33; rw [← Ny117.out] at ho33))
                                have n0_ := Aside0.mk (Kd.R_below (by (with_reducible repeat (first | apply Kd.R_alloc | apply Kd.R_drewN | apply Kd.R_drew)); exact HO_1.out) hb)
                                have n1_ := Aside0.mk (Kd.R_lower ho33 (below_size (by repeat (first | (with_reducible first | exact HB.out | apply below_alloc | apply pw_below_drewN | apply below_drew1 | refine below_set ?_ GE110.out) | exact HB.out))))
                                have n2_ := Aside0.mk (blk_below (g := gb110) (o := .cells #[.int .i64 x2_1, .int .i64 x4_1, .int .u8 (bt allT x3_1), .string x111003_3] 147 (0, 0)) (by (with_reducible repeat (first | refine blk_drewN ?_ _ | refine blk_drew ?_ | refine blk_alloc ?_ _)); exact BK110.out) hb)
                                have n3_ := Aside0.mk (below_step (by repeat (first | (with_reducible first | exact HB.out | apply below_alloc | apply pw_below_drewN | apply below_drew1 | refine below_set ?_ GE110.out) | exact HB.out)) hb)
                                clear HO_1
                                clear BK110
                                clear HB
                                have HO_1 := n0_
                                have HO119 := n1_
                                have BK110 := n2_
                                have HB := n3_
                                clear n0_ n1_ n2_ n3_
                                clear hb ho33
                                refine hK.out _ _ ⟨(blk_cell BK110.out 0).trans rfl, (blk_cell BK110.out 1).trans rfl, (blk_cell BK110.out 2).trans rfl, (blk_cell BK110.out 3).trans rfl⟩ (fun hHeld => ?_)
                                clear hK K
                                refine norm_ (a' := ?_) ?_ ?_
                                rotate_left
                                · show Act.put _ (some 50) _ = _
                                  simp only [Act.put, List.setIfInBounds_toArray, List.set_cons_zero, List.set_cons_succ, i64_w, i32_w]
                                  rfl
                                refine one_ (i := 5) (N := some 51) #[true, true, true, true, true, true, false, false, false] rfl rfl (one_of HT_.out (by kernel_rfl)) (by decide) (fun K hK => ?_)
                                have hcv34 := own_string (P := Tryd.prog) Tryd.underlying115 Tryd.underlying5 Tryd.underlying9 (Kd.own_of_R HO119.out)
                                refine value_ (w1 := ?_) (v := ?_) (by rfl) rfl ?_ ?_
                                rotate_left 2
                                · go_simp
                                  constructor
                                  · rfl
                                  · rfl
                                clear hcv34
                                refine hK.out _ _ ⟨(blk_cell BK110.out 0).trans rfl, (blk_cell BK110.out 1).trans rfl, (blk_cell BK110.out 2).trans rfl, (blk_cell BK110.out 3).trans rfl⟩ (fun hHeld => ?_)
                                clear hK K
                                refine norm_ (a' := ?_) ?_ ?_
                                rotate_left
                                · show Act.put _ (some 51) _ = _
                                  simp only [Act.put, List.setIfInBounds_toArray, List.set_cons_zero, List.set_cons_succ, i64_w, i32_w]
                                  rfl
                                refine pure_ (i := 6) (N := some 52) (v := ?_) (a' := ?_) #[true, true, true, true, true, true, true, false, false] rfl rfl (any_of HT_.out (by kernel_rfl)) (fun _ _ _ h => h) (Or.inl ⟨by rfl, ?_⟩) ?_ ?_
                                rotate_left
                                · intro w'
                                  go_simp
                                  with_reducible rfl
                                rotate_left
                                · simp only [Act.put, List.setIfInBounds_toArray, List.set_cons_zero, List.set_cons_succ, i64_w, i32_w]
                                  rfl
                                refine pure_ (i := 7) (N := some 53) (v := ?_) (a' := ?_) #[true, true, true, true, true, true, true, true, false] rfl rfl (any_of HT_.out (by kernel_rfl)) (fun _ _ _ h => h) (Or.inl ⟨by rfl, ?_⟩) ?_ ?_
                                rotate_left
                                · intro w'
                                  go_simp
                                  with_reducible rfl
                                rotate_left
                                · simp only [Act.put, List.setIfInBounds_toArray, List.set_cons_zero, List.set_cons_succ, i64_w, i32_w]
                                  rfl
                                refine last_ (i := 8) (N := none) #[true, true, true, true, true, true, true, true, true] rfl rfl (one_of HT_.out (by kernel_rfl)) (by decide) (fun K hK => ?_)
                                have hs35 : w32.cell? ⟨gb110, 3, none⟩ = some (.string x111003_3) := (blk_cell BK110.out 3).trans rfl
                                have hfs35 := blk_frozen BK110.out 3
                                refine skip_ (w1 := ?_) (by rfl) rfl ?_ ?_
                                rotate_left
                                · go_simp
                                  rfl
                                refine hK.out _ _ ?_
                                clear hK K
                                refine done_ (done_of HT_.out (by kernel_rfl)) ?_
                                try go_wp2
                                go_roundg k3
                                case measure => have := HK1.out; have := HJ1.out; have := HK3.out; omega
                                case rel => exact ⟨(wrap64 (x3_3 + 1)), (x111003_3 ++ (strOfNums y117)), (by first | rfl | (simp; done) | (simp [*]; done)), H', ⟨by have := HK1.out; have := HJ1.out; have := HK3.out; omega⟩, ⟨by (with_reducible repeat (first | apply Kd.R_alloc | apply Kd.R_drewN | apply Kd.R_drew)); exact Kd.R_mono (Kd.R_far (p := ⟨gb110, 3, none⟩) (Kd.R_mono HO_1.out (fun k_ hk => (⟨hk, hk⟩ : _ ∧ k_ ≠ gb110))) (fun _ hk => hk.2) (.string (x111003_3 ++ (strOfNums y117)))) (fun _ hk => hk.1)⟩, ⟨by (with_reducible repeat (first | refine blk_drewN ?_ _ | refine blk_drew ?_ | refine blk_alloc ?_ _)); refine blk_put (cs := #[.int .i64 x2_1, .int .i64 x4_1, .int .u8 (bt allT x3_1), .string x111003_3]) ?_ 3 _ rfl; (with_reducible repeat (first | refine blk_drewN ?_ _ | refine blk_drew ?_ | refine blk_alloc ?_ _)); exact BK110.out⟩, ⟨by repeat (first | (with_reducible first | exact HB.out | apply below_alloc | apply pw_below_drewN | apply below_drew1 | refine below_set ?_ GE110.out) | exact HB.out)⟩⟩
                              · rw [if_neg c30] at H
                                exact absurd H (by simp)
                        · rw [if_neg c18] at H
                          exact absurd H (by simp)
                      · rw [if_neg c17] at H
                        exact absurd H (by simp)
              · rw [if_neg c11] at H
                exact absurd H (by simp)
            · rw [if_neg c10] at H
              exact absurd H (by simp)
      · rw [if_neg c1] at H
        have c1b0 : decide (x3_1 < 384) = false := decide_eq_false c1
        clear c1
        obtain rfl := Option.some.inj H
        go_wp2
        go_ret
        exact ⟨_, by first | rfl | (simp [errW_none, errW_some] <;> rfl) | (simp [*, errW_none, errW_some] <;> rfl), by (with_reducible repeat (first | apply Kd.R_alloc | apply Kd.R_drewN | apply Kd.R_drew)); exact HO_1.out, by repeat (first | (with_reducible first | exact HB.out | apply below_alloc | apply pw_below_drewN | apply below_drew1) | exact HB.out)⟩

end Go.Proofs.YtdogcnadopepmaaDoor.H
