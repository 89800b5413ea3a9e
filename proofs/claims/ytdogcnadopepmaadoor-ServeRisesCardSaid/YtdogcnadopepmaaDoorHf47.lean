/- Laid by a program of this session's (hyb.py) over the kit's print: functions and their contracts, some callees' contracts being typed by hand. -/
import Derived.Test.YtdogcnadopepmaaDoorH0
import Derived.Test.YtdogcnadopepmaaDoorT84
namespace Go.Proofs.YtdogcnadopepmaaDoor.H
open Go.RowKit Go.Proofs.YtdogcnadopepmaaDoorW.PrintWords Go.Proofs.YtdogcnadopepmaaDoorW.PrintLast Go.Proofs.YtdogcnadopepmaaDoorW.PrintMore
attribute [local go_sem] max2_int min2_int max_two min_two max_three min_three max_four min_four   -- for this text's walks alone
set_option linter.unusedVariables false
set_option linter.unusedSimpArgs false

/-! ### interchangeref05_Of: function 47 -/
def interchangeref05_Of.l0 : Nat → Int → Int → List (S147) → Int → Option (ByteArray × Bool)
  | 0, _, _, _, _ => none
  | k + 1, x0, x1, x6, x7 => if x7 < (x6.length : Int) then (if 0 ≤ x7 then (if ((rd_T147 x6 x7).f0) = x0 then (if ((rd_T147 x6 x7).f1) = x1 then (some ((rd_T147 x6 x7).f3, true)) else (interchangeref05_Of.l0 k x0 x1 x6 (wrap64 (x7 + 1)))) else (interchangeref05_Of.l0 k x0 x1 x6 (wrap64 (x7 + 1)))) else (none)) else (some ((⟨#[]⟩ : ByteArray), false))
def interchangeref05_Of.f (k : Nat) (a0 : Int) (a1 : Int) : Option (ByteArray × Bool) := (interchangeref05_All.f k).bind fun t120 => (interchangeref05_Of.l0 k a0 a1 t120 0)
theorem interchangeref05_Of.mono_l : ∀ k, (∀ y0 y1 y2 y3, LeO (interchangeref05_Of.l0 k y0 y1 y2 y3) (interchangeref05_Of.l0 (k + 1) y0 y1 y2 y3))
  | 0 => fun _ _ _ _ r h => by simp [interchangeref05_Of.l0] at h
  | k + 1 => by
    have ih0 := interchangeref05_Of.mono_l k
    · intro y0 y1 y2 y3
      unfold interchangeref05_Of.l0
      repeat' first
      | (with_reducible exact ih0 _ _ _ _)
      | (with_reducible exact interchangeref05_All.mono _)
      | (with_reducible exact LeO.refl _)
      | (with_reducible exact LeO.none _)
      | (with_reducible refine LeO.ite ?_ ?_)
      | (with_reducible refine LeO.bind ?_ (fun _ => ?_))
      | exact ih0 _ _ _ _
      | exact interchangeref05_All.mono _
      | exact LeO.none _
      | refine LeO.ite ?_ ?_
      | refine LeO.bind ?_ (fun _ => ?_)
theorem interchangeref05_Of.mono : ∀ a0 a1 k, LeO (interchangeref05_Of.f k a0 a1) (interchangeref05_Of.f (k + 1) a0 a1) := by
  intro a0 a1 k
  have ih0 := interchangeref05_Of.mono_l k
  unfold interchangeref05_Of.f
  repeat' first
      | (with_reducible exact ih0 _ _ _ _)
      | (with_reducible exact interchangeref05_All.mono _)
      | (with_reducible exact LeO.refl _)
      | (with_reducible exact LeO.none _)
      | (with_reducible refine LeO.ite ?_ ?_)
      | (with_reducible refine LeO.bind ?_ (fun _ => ?_))
      | exact ih0 _ _ _ _
      | exact interchangeref05_All.mono _
      | exact LeO.none _
      | refine LeO.ite ?_ ?_
      | refine LeO.bind ?_ (fun _ => ?_)
set_option maxHeartbeats 8000000 in
set_option maxRecDepth 100000 in
theorem interchangeref05_Of.calls (k : Nat) (a0 : Int) (a1 : Int) (r1 : ByteArray) (r2 : Bool) (w : World) (h : interchangeref05_Of.f k a0 a1 = some (r1, r2)) :
    Calls Tryd.prog 47 #[.int .i64 a0, .int .i64 a1] w fun e w' => e = .returned (.tuple #[.string r1, .bool r2]) ∧ Below w.heap.size w w' := by
  have HB := Aside0.mk (Below.refl w.heap.size w)
  have H : ((interchangeref05_All.f k).bind fun t120 => (interchangeref05_Of.l0 k a0 a1 t120 0)) = some (r1, r2) := h
  clear h
  replace H := Option.bind_eq_some_iff.mp H
  obtain ⟨t120, A30, H⟩ := H
  replace H : (interchangeref05_Of.l0 k a0 a1 t120 0) = some (r1, r2) := H
  have A3 := Aside0.mk A30
  clear A30
  have H' := Aside0.mk H
  clear H
  go_enter Tryd.func47, Tryd.ntmps47
  go_wp2_with (first | ((with_reducible refine gate_callee (f := 84) rfl ?_); refine goesL_ (some 8) rfl rfl Tryd.func84 (by kernel_rfl) rfl #[] rfl (by (try simp only [List.map_toArray, List.map_cons, List.map_nil]); first | done | rfl | (simp only [List.length_drop, List.length_take]; rfl)) ?_; (with_reducible refine (interchangeref05_All.calls k  t120 _ A3.out).mono ?_); rintro e w4 ⟨v121, rfl, ho0, hb⟩; refine ⟨_, rfl, ?_⟩; have n0_ := Aside0.mk (Kd.R_lower ho0 (below_size (by repeat (first | (with_reducible first | exact HB.out | apply below_alloc | apply pw_below_drewN | apply below_drew1) | exact HB.out)))); have n1_ := Aside0.mk (below_step (by repeat (first | (with_reducible first | exact HB.out | apply below_alloc | apply pw_below_drewN | apply below_drew1) | exact HB.out)) hb); clear HB; have HO122 := n0_; have HB := n1_; clear n0_ n1_; (try clear hb); (try clear hb2); (try clear hk); (try clear hi); (try clear ho0)))
  go_loopg [7] k (fun kq v7 w' => ∃ (x7_1 : Int), v7 = .int .i64 x7_1 ∧ Aside0 (interchangeref05_Of.l0 kq a0 a1 t120 x7_1 = some (r1, r2)) ∧ Aside0 (kq ≤ k) ∧ Aside0 (Kd.R k147 147 w' w.heap.size (fun _ => True) v121 t120) ∧ Aside0 (Below w.heap.size w w'))
  case atStart => exact ⟨(0), (by first | rfl | (simp; done) | (simp [*]; done)), H', ⟨Nat.le_refl _⟩, ⟨by (with_reducible repeat (first | apply Kd.R_alloc | apply Kd.R_drewN | apply Kd.R_drew)); exact HO122.out⟩, ⟨by repeat (first | (with_reducible first | exact HB.out | apply below_alloc | apply pw_below_drewN | apply below_drew1) | exact HB.out)⟩⟩
  case round =>
    clear H'
    try clear p2
    try clear c4
    obtain ⟨x7_1, rfl, HA, HK1, HO_6, HB⟩ := hrel
    cases gk with
    | zero => exact absurd HA.out (by simp [interchangeref05_Of.l0])
    | succ k1 =>
      have H := HA.out
      clear HA
      simp only [interchangeref05_Of.l0] at H
      by_cases c5 : x7_1 < (t120.length : Int)
      · rw [if_pos c5] at H
        have c5b0 : decide (x7_1 < (t120.length : Int)) = true := decide_eq_true c5
        clear c5
        by_cases c6 : 0 ≤ x7_1
        · rw [if_pos c6] at H
          have c6b0 : decide (0 ≤ x7_1) = true := decide_eq_true c6
          clear c6
          by_cases c7 : ((rd_T147 t120 x7_1).f0) = a0
          · rw [if_pos c7] at H
            have c7b0 : (((rd_T147 t120 x7_1).f0) == a0) = true := beq_iff_eq.mpr c7
            have c7b1 : (((rd_T147 t120 x7_1).f0) != a0) = false := bne_eq_false_iff_eq.mpr c7
            clear c7
            by_cases c8 : ((rd_T147 t120 x7_1).f1) = a1
            · rw [if_pos c8] at H
              have c8b0 : (((rd_T147 t120 x7_1).f1) == a1) = true := beq_iff_eq.mpr c8
              have c8b1 : (((rd_T147 t120 x7_1).f1) != a1) = false := bne_eq_false_iff_eq.mpr c8
              clear c8
              simp only [Option.some.injEq, Prod.mk.injEq] at H
              obtain ⟨rfl, rfl⟩ := H
              obtain ⟨Ao9, co9, eo9⟩ := Kd.R_slice HO_6.out
              subst eo9
              have p123 : 0 ≤ (x7_1 : Int) := of_decide_eq_true (by first | (with_reducible assumption) | assumption)
              have q123 : x7_1 < (t120.length : Int) := of_decide_eq_true (by first | (with_reducible assumption) | assumption)
              obtain ⟨ad123, e123, hx123_0, hx123_1, hx123_2, hx123_3⟩ := at_T147 (Kd.R_reads' HO_6.out).2.2 x7_1 p123 q123
              cases e123
              replace p123 := eq_true p123
              replace q123 := eq_true q123
              have p124 : 0 ≤ (x7_1 : Int) := of_decide_eq_true (by first | (with_reducible assumption) | assumption)
              have q124 : x7_1 < (t120.length : Int) := of_decide_eq_true (by first | (with_reducible assumption) | assumption)
              obtain ⟨ad124, e124, hx124_0, hx124_1, hx124_2, hx124_3⟩ := at_T147 (Kd.R_reads' HO_6.out).2.2 x7_1 p124 q124
              obtain rfl : ad123 = ad124 := (by injection e124)
              replace p124 := eq_true p124
              replace q124 := eq_true q124
              have p125 : 0 ≤ (x7_1 : Int) := of_decide_eq_true (by first | (with_reducible assumption) | assumption)
              have q125 : x7_1 < (t120.length : Int) := of_decide_eq_true (by first | (with_reducible assumption) | assumption)
              obtain ⟨ad125, e125, hx125_0, hx125_1, hx125_2, hx125_3⟩ := at_T147 (Kd.R_reads' HO_6.out).2.2 x7_1 p125 q125
              obtain rfl : ad123 = ad125 := (by injection e125)
              replace p125 := eq_true p125
              replace q125 := eq_true q125
              go_wp2
              go_ret2
              exact ⟨by first | rfl | (simp [errW_none, errW_some] <;> rfl) | (simp [*, errW_none, errW_some] <;> rfl), by repeat (first | (with_reducible first | exact HB.out | apply below_alloc | apply pw_below_drewN | apply below_drew1) | exact HB.out)⟩
            · rw [if_neg c8] at H
              have c8b0 : (((rd_T147 t120 x7_1).f1) == a1) = false := beq_eq_false_iff_ne.mpr c8
              have c8b1 : (((rd_T147 t120 x7_1).f1) != a1) = true := bne_iff_ne.mpr c8
              have H' := Aside0.mk H
              clear H
              obtain ⟨Ao10, co10, eo10⟩ := Kd.R_slice HO_6.out
              subst eo10
              have p123 : 0 ≤ (x7_1 : Int) := of_decide_eq_true (by first | (with_reducible assumption) | assumption)
              have q123 : x7_1 < (t120.length : Int) := of_decide_eq_true (by first | (with_reducible assumption) | assumption)
              obtain ⟨ad123, e123, hx123_0, hx123_1, hx123_2, hx123_3⟩ := at_T147 (Kd.R_reads' HO_6.out).2.2 x7_1 p123 q123
              cases e123
              replace p123 := eq_true p123
              replace q123 := eq_true q123
              have p124 : 0 ≤ (x7_1 : Int) := of_decide_eq_true (by first | (with_reducible assumption) | assumption)
              have q124 : x7_1 < (t120.length : Int) := of_decide_eq_true (by first | (with_reducible assumption) | assumption)
              obtain ⟨ad124, e124, hx124_0, hx124_1, hx124_2, hx124_3⟩ := at_T147 (Kd.R_reads' HO_6.out).2.2 x7_1 p124 q124
              obtain rfl : ad123 = ad124 := (by injection e124)
              replace p124 := eq_true p124
              replace q124 := eq_true q124
              go_wp2
              go_roundg k1
              case measure => have := HK1.out; omega
              case rel => exact ⟨(wrap64 (x7_1 + 1)), (by first | rfl | (simp; done) | (simp [*]; done)), H', ⟨by have := HK1.out; omega⟩, ⟨by (with_reducible repeat (first | apply Kd.R_alloc | apply Kd.R_drewN | apply Kd.R_drew)); exact HO_6.out⟩, ⟨by repeat (first | (with_reducible first | exact HB.out | apply below_alloc | apply pw_below_drewN | apply below_drew1) | exact HB.out)⟩⟩
          · rw [if_neg c7] at H
            have c7b0 : (((rd_T147 t120 x7_1).f0) == a0) = false := beq_eq_false_iff_ne.mpr c7
            have c7b1 : (((rd_T147 t120 x7_1).f0) != a0) = true := bne_iff_ne.mpr c7
            have H' := Aside0.mk H
            clear H
            obtain ⟨Ao11, co11, eo11⟩ := Kd.R_slice HO_6.out
            subst eo11
            have p123 : 0 ≤ (x7_1 : Int) := of_decide_eq_true (by first | (with_reducible assumption) | assumption)
            have q123 : x7_1 < (t120.length : Int) := of_decide_eq_true (by first | (with_reducible assumption) | assumption)
            obtain ⟨ad123, e123, hx123_0, hx123_1, hx123_2, hx123_3⟩ := at_T147 (Kd.R_reads' HO_6.out).2.2 x7_1 p123 q123
            cases e123
            replace p123 := eq_true p123
            replace q123 := eq_true q123
            go_wp2
            go_roundg k1
            case measure => have := HK1.out; omega
            case rel => exact ⟨(wrap64 (x7_1 + 1)), (by first | rfl | (simp; done) | (simp [*]; done)), H', ⟨by have := HK1.out; omega⟩, ⟨by (with_reducible repeat (first | apply Kd.R_alloc | apply Kd.R_drewN | apply Kd.R_drew)); exact HO_6.out⟩, ⟨by repeat (first | (with_reducible first | exact HB.out | apply below_alloc | apply pw_below_drewN | apply below_drew1) | exact HB.out)⟩⟩
        · rw [if_neg c6] at H
          exact absurd H (by simp)
      · rw [if_neg c5] at H
        have c5b0 : decide (x7_1 < (t120.length : Int)) = false := decide_eq_false c5
        clear c5
        simp only [Option.some.injEq, Prod.mk.injEq] at H
        obtain ⟨rfl, rfl⟩ := H
        obtain ⟨Ao12, co12, eo12⟩ := Kd.R_slice HO_6.out
        subst eo12
        go_wp2
        go_ret2
        exact ⟨by first | rfl | (simp [errW_none, errW_some] <;> rfl) | (simp [*, errW_none, errW_some] <;> rfl), by repeat (first | (with_reducible first | exact HB.out | apply below_alloc | apply pw_below_drewN | apply below_drew1) | exact HB.out)⟩

end Go.Proofs.YtdogcnadopepmaaDoor.H
