/- Laid by a program of this session's (hyb.py) over the kit's print: functions and their contracts, some callees' contracts being typed by hand. -/
import Derived.Test.YtdogcnadopepmaaDoorH0
import Derived.Test.YtdogcnadopepmaaDoorHf48
import Derived.Test.YtdogcnadopepmaaDoorHf52
import Derived.Test.YtdogcnadopepmaaDoorHf119
namespace Go.Proofs.YtdogcnadopepmaaDoor.H
open Go.RowKit Go.Proofs.YtdogcnadopepmaaDoorW.PrintWords Go.Proofs.YtdogcnadopepmaaDoorW.PrintLast Go.Proofs.YtdogcnadopepmaaDoorW.PrintMore
attribute [local go_sem] max2_int min2_int max_two min_two max_three min_three max_four min_four   -- for this text's walks alone
set_option linter.unusedVariables false
set_option linter.unusedSimpArgs false

/-! ### interchangeref06_val: function 83 -/
mutual
def interchangeref06_val.j0 : Nat → Int → Int → Int → ByteArray → Option (Int)
  | 0, _, _, _, _ => none
  | k + 1, x0, x5, x141000, x141001 => if x0 = 98 then (if x141000 > 1 then (interchangeref06_val.j1 k x0 x5 true x141000 x141001) else (if x0 = 83 then (if (x141001.size : Int) > 255 then (interchangeref06_val.j1 k x0 x5 true x141000 x141001) else (if x0 = 76 then (interchangeref06_val.j1 k x0 x5 (decide ((x141001.size : Int) > 131072)) x141000 x141001) else (interchangeref06_val.j1 k x0 x5 false x141000 x141001))) else (if x0 = 76 then (interchangeref06_val.j1 k x0 x5 (decide ((x141001.size : Int) > 131072)) x141000 x141001) else (interchangeref06_val.j1 k x0 x5 false x141000 x141001)))) else (if x0 = 83 then (if (x141001.size : Int) > 255 then (interchangeref06_val.j1 k x0 x5 true x141000 x141001) else (if x0 = 76 then (interchangeref06_val.j1 k x0 x5 (decide ((x141001.size : Int) > 131072)) x141000 x141001) else (interchangeref06_val.j1 k x0 x5 false x141000 x141001))) else (if x0 = 76 then (interchangeref06_val.j1 k x0 x5 (decide ((x141001.size : Int) > 131072)) x141000 x141001) else (interchangeref06_val.j1 k x0 x5 false x141000 x141001)))
def interchangeref06_val.j1 : Nat → Int → Int → Bool → Int → ByteArray → Option (Int)
  | 0, _, _, _, _, _ => none
  | k + 1, x0, x5, x49, x141000, x141001 => if x49 = true then (some 4) else (if x5 > 0 then (interchangeref06_val.j2 k x0 true x141000 x141001) else (interchangeref06_val.j2 k x0 (x0 == 98) x141000 x141001))
def interchangeref06_val.j2 : Nat → Int → Bool → Int → ByteArray → Option (Int)
  | 0, _, _, _, _ => none
  | k + 1, x0, x55, x141000, x141001 => if x55 = true then (if (x141001.size : Int) > 0 then (some 1) else (some 0)) else (if x141000 = 0 then (if x0 = 84 then ((interchangeref03_Deep.f k x141001).bind fun bt144 => (if bt144.2 = 0 then (some 0) else (some 3))) else (some 0)) else (some 1))
end
def interchangeref06_val.f (k : Nat) (a0 : Int) (a1_0 : Int) (a1_1 : ByteArray) : Option (Int) := (interchangeref06_width.f a0).bind fun t141 => (if t141 > 0 then ((interchangeref01_Put.f k t141 a1_0).bind fun bt142 => (if bt142.2 = 0 then (interchangeref06_val.j0 k a0 t141 a1_0 a1_1) else (some 4))) else (interchangeref06_val.j0 k a0 t141 a1_0 a1_1))
theorem interchangeref06_val.mono_l : ∀ k, (∀ y0 y1 y2 y3, LeO (interchangeref06_val.j0 k y0 y1 y2 y3) (interchangeref06_val.j0 (k + 1) y0 y1 y2 y3)) ∧ (∀ y0 y1 y2 y3 y4, LeO (interchangeref06_val.j1 k y0 y1 y2 y3 y4) (interchangeref06_val.j1 (k + 1) y0 y1 y2 y3 y4)) ∧ (∀ y0 y1 y2 y3, LeO (interchangeref06_val.j2 k y0 y1 y2 y3) (interchangeref06_val.j2 (k + 1) y0 y1 y2 y3))
  | 0 => ⟨fun _ _ _ _ r h => by simp [interchangeref06_val.j0] at h, fun _ _ _ _ _ r h => by simp [interchangeref06_val.j1] at h, fun _ _ _ _ r h => by simp [interchangeref06_val.j2] at h⟩
  | k + 1 => by
    obtain ⟨ih0, ih1, ih2⟩ := interchangeref06_val.mono_l k
    refine ⟨?_, ?_, ?_⟩
    · intro y0 y1 y2 y3
      unfold interchangeref06_val.j0
      repeat' first
      | (with_reducible exact ih0 _ _ _ _)
      | (with_reducible exact ih1 _ _ _ _ _)
      | (with_reducible exact ih2 _ _ _ _)
      | (with_reducible exact interchangeref01_Put.mono _ _ _)
      | (with_reducible exact interchangeref03_Deep.mono _ _)
      | (with_reducible exact LeO.refl _)
      | (with_reducible exact LeO.none _)
      | (with_reducible refine LeO.ite ?_ ?_)
      | (with_reducible refine LeO.bind ?_ (fun _ => ?_))
      | exact ih0 _ _ _ _
      | exact ih1 _ _ _ _ _
      | exact ih2 _ _ _ _
      | exact interchangeref01_Put.mono _ _ _
      | exact interchangeref03_Deep.mono _ _
      | exact LeO.none _
      | refine LeO.ite ?_ ?_
      | refine LeO.bind ?_ (fun _ => ?_)
    · intro y0 y1 y2 y3 y4
      unfold interchangeref06_val.j1
      repeat' first
      | (with_reducible exact ih0 _ _ _ _)
      | (with_reducible exact ih1 _ _ _ _ _)
      | (with_reducible exact ih2 _ _ _ _)
      | (with_reducible exact interchangeref01_Put.mono _ _ _)
      | (with_reducible exact interchangeref03_Deep.mono _ _)
      | (with_reducible exact LeO.refl _)
      | (with_reducible exact LeO.none _)
      | (with_reducible refine LeO.ite ?_ ?_)
      | (with_reducible refine LeO.bind ?_ (fun _ => ?_))
      | exact ih0 _ _ _ _
      | exact ih1 _ _ _ _ _
      | exact ih2 _ _ _ _
      | exact interchangeref01_Put.mono _ _ _
      | exact interchangeref03_Deep.mono _ _
      | exact LeO.none _
      | refine LeO.ite ?_ ?_
      | refine LeO.bind ?_ (fun _ => ?_)
    · intro y0 y1 y2 y3
      unfold interchangeref06_val.j2
      repeat' first
      | (with_reducible exact ih0 _ _ _ _)
      | (with_reducible exact ih1 _ _ _ _ _)
      | (with_reducible exact ih2 _ _ _ _)
      | (with_reducible exact interchangeref01_Put.mono _ _ _)
      | (with_reducible exact interchangeref03_Deep.mono _ _)
      | (with_reducible exact LeO.refl _)
      | (with_reducible exact LeO.none _)
      | (with_reducible refine LeO.ite ?_ ?_)
      | (with_reducible refine LeO.bind ?_ (fun _ => ?_))
      | exact ih0 _ _ _ _
      | exact ih1 _ _ _ _ _
      | exact ih2 _ _ _ _
      | exact interchangeref01_Put.mono _ _ _
      | exact interchangeref03_Deep.mono _ _
      | exact LeO.none _
      | refine LeO.ite ?_ ?_
      | refine LeO.bind ?_ (fun _ => ?_)
theorem interchangeref06_val.mono : ∀ a0 a1 a2 k, LeO (interchangeref06_val.f k a0 a1 a2) (interchangeref06_val.f (k + 1) a0 a1 a2) := by
  intro a0 a1 a2 k
  obtain ⟨ih0, ih1, ih2⟩ := interchangeref06_val.mono_l k
  unfold interchangeref06_val.f
  repeat' first
      | (with_reducible exact ih0 _ _ _ _)
      | (with_reducible exact ih1 _ _ _ _ _)
      | (with_reducible exact ih2 _ _ _ _)
      | (with_reducible exact interchangeref01_Put.mono _ _ _)
      | (with_reducible exact interchangeref03_Deep.mono _ _)
      | (with_reducible exact LeO.refl _)
      | (with_reducible exact LeO.none _)
      | (with_reducible refine LeO.ite ?_ ?_)
      | (with_reducible refine LeO.bind ?_ (fun _ => ?_))
      | exact ih0 _ _ _ _
      | exact ih1 _ _ _ _ _
      | exact ih2 _ _ _ _
      | exact interchangeref01_Put.mono _ _ _
      | exact interchangeref03_Deep.mono _ _
      | exact LeO.none _
      | refine LeO.ite ?_ ?_
      | refine LeO.bind ?_ (fun _ => ?_)
set_option maxHeartbeats 8000000 in
set_option maxRecDepth 100000 in
theorem interchangeref06_val.calls (k : Nat) (a0 : Int) (a1_0 : Int) (a1_1 : ByteArray) (r : Int) (w : World) (h : interchangeref06_val.f k a0 a1_0 a1_1 = some r) :
    Calls Tryd.prog 83 #[.int .u8 a0, .agg #[.int .u64 a1_0, .string a1_1]] w fun e w' => e = .returned (.int .i64 r) ∧ Below w.heap.size w w' := by
  have hu56 := Tryd.underlying56
  have HB := Aside0.mk (Below.refl w.heap.size w)
  have H : ((interchangeref06_width.f a0).bind fun t141 => (if t141 > 0 then ((interchangeref01_Put.f k t141 a1_0).bind fun bt142 => (if bt142.2 = 0 then (interchangeref06_val.j0 k a0 t141 a1_0 a1_1) else (some 4))) else (interchangeref06_val.j0 k a0 t141 a1_0 a1_1))) = some r := h
  clear h
  replace H := Option.bind_eq_some_iff.mp H
  obtain ⟨t141, A30, H⟩ := H
  replace H : (if t141 > 0 then ((interchangeref01_Put.f k t141 a1_0).bind fun bt142 => (if bt142.2 = 0 then (interchangeref06_val.j0 k a0 t141 a1_0 a1_1) else (some 4))) else (interchangeref06_val.j0 k a0 t141 a1_0 a1_1)) = some r := H
  have A3 := Aside0.mk A30
  clear A30
  have HC4 := Aside0.mk H
  clear H
  go_enter Tryd.func83, Tryd.ntmps83
  go_upto_if 13 with (first | ((with_reducible refine gate_dst (N := 3) rfl ?_); (try (refine gate_guard (by rfl) ?_; dsimp only)); refine box_event ?hg (N := 3) ?hd (cs := #[.int .u64 a1_0, .string a1_1]) (t := 56) ?hr ?_; (case hd => rfl); (case hg => rfl); (case hr => first | (go_simp; done) | (go_simp; rfl)); intro gb140 hg w5 hbox hb; have n0_ := Aside0.mk (below_step (by repeat (first | (with_reducible first | exact HB.out | apply below_alloc | apply pw_below_drewN | apply below_drew1) | exact HB.out)) hb); have n1_ := Aside0.mk (hbox); have n2_ := Aside0.mk ((by rw [hg]; exact (below_size (by repeat (first | (with_reducible first | exact HB.out | apply below_alloc | apply pw_below_drewN | apply below_drew1) | exact HB.out))) : w.heap.size ≤ gb140)); have n3_ := Aside0.mk ((by rw [hg]; exact (below_size (by repeat (first | (with_reducible first | exact HB.out | apply below_alloc | apply pw_below_drewN | apply below_drew1) | exact HB.out))) : w.heap.size ≤ gb140)); clear HB; have HB := n0_; have BK140 := n1_; have GW140 := n2_; have GE140 := n3_; clear n0_ n1_ n2_ n3_; clear hb hbox hg) | ((with_reducible refine gate_callee (f := 52) rfl ?_); refine goesL_ (some 11) rfl rfl Tryd.func52 (by kernel_rfl) rfl #[.int .u8 a0] rfl (by (try simp only [List.map_toArray, List.map_cons, List.map_nil]); first | done | rfl | (simp only [List.length_drop, List.length_take]; rfl)) ?_; (with_reducible refine (interchangeref06_width.calls a0 t141 _ A3.out).mono ?_); rintro e w' ⟨rfl, ⟨nd, rfl⟩⟩; refine ⟨_, rfl, ?_⟩))
  (try simp only [Act.put, List.setIfInBounds_toArray, List.set_cons_zero, List.set_cons_succ])
  go_cut [] (fun wc => ∃ (kq : Nat), Aside0 (interchangeref06_val.j0 kq a0 t141 a1_0 a1_1 = some r) ∧ Aside0 (kq ≤ k) ∧ Aside0 (wc.heap[gb140]? = some (.cells #[.int .u64 a1_0, .string a1_1] 56 (0, 0))) ∧ Aside0 (Below w.heap.size w wc))
  case first =>
    have H := HC4.out
    clear HC4
    by_cases c6 : t141 > 0
    · rw [if_pos c6] at H
      have c6b0 : decide (0 < t141) = true := decide_eq_true c6
      clear c6
      (first | rw [c6b0] | (simp only [i64_w, i32_w]; rw [c6b0]) | skip)
      replace H := Option.bind_eq_some_iff.mp H
      obtain ⟨⟨t142, t143⟩, A70, H⟩ := H
      replace H : (if t143 = 0 then (interchangeref06_val.j0 k a0 t141 a1_0 a1_1) else (some 4)) = some r := H
      have A7 := Aside0.mk A70
      clear A70
      by_cases c8 : t143 = 0
      · rw [if_pos c8] at H
        have c8b0 : (t143 == 0) = true := beq_iff_eq.mpr c8
        have c8b1 : (t143 != 0) = false := bne_eq_false_iff_eq.mpr c8
        clear c8
        have H' := Aside0.mk H
        clear H
        have hcz9_0 : w5.cell? ⟨gb140, 0, none⟩ = some (.int .u64 a1_0) := (blk_cell BK140.out 0).trans rfl
        have hcz9_1 : w5.cell? ⟨gb140, 1, none⟩ = some (.string a1_1) := (blk_cell BK140.out 1).trans rfl
        have hfz9_0 := blk_frozen BK140.out 0
        have hfz9_1 := blk_frozen BK140.out 1
        go_wp2_with (first | ((with_reducible refine gate_callee (f := 48) rfl ?_); refine goesL_ (some 18) rfl rfl Tryd.func48 (by kernel_rfl) rfl #[.int .i64 t141, .int .u64 a1_0] rfl (by (try simp only [List.map_toArray, List.map_cons, List.map_nil]); first | done | rfl | (simp only [List.length_drop, List.length_take]; rfl)) ?_; (with_reducible refine (interchangeref01_Put.calls k t141 a1_0 t142 t143 _ A7.out).mono ?_); rintro e w10 ⟨rfl, hb⟩; refine ⟨_, rfl, ?_⟩; have n0_ := Aside0.mk (blk_below (g := gb140) (o := .cells #[.int .u64 a1_0, .string a1_1] 56 (0, 0)) (by (with_reducible repeat (first | refine blk_drewN ?_ _ | refine blk_drew ?_ | refine blk_alloc ?_ _)); exact BK140.out) hb); have n1_ := Aside0.mk (below_step (by repeat (first | (with_reducible first | exact HB.out | apply below_alloc | apply pw_below_drewN | apply below_drew1 | refine below_set ?_ GE140.out) | exact HB.out)) hb); clear BK140; clear HB; have BK140 := n0_; have HB := n1_; clear n0_ n1_; (try clear hb); (try clear hb2); (try clear hk); (try clear hi)))
        go_meet
        case rel => exact ⟨_, H', ⟨by first | omega | exact Nat.le_refl _⟩, ⟨by (with_reducible repeat (first | refine blk_drewN ?_ _ | refine blk_drew ?_ | refine blk_alloc ?_ _)); exact BK140.out⟩, ⟨by repeat (first | (with_reducible first | exact HB.out | apply below_alloc | apply pw_below_drewN | apply below_drew1 | refine below_set ?_ GE140.out) | exact HB.out)⟩⟩
      · rw [if_neg c8] at H
        have c8b0 : (t143 == 0) = false := beq_eq_false_iff_ne.mpr c8
        have c8b1 : (t143 != 0) = true := bne_iff_ne.mpr c8
        obtain rfl := Option.some.inj H
        have hcz11_0 : w5.cell? ⟨gb140, 0, none⟩ = some (.int .u64 a1_0) := (blk_cell BK140.out 0).trans rfl
        have hcz11_1 : w5.cell? ⟨gb140, 1, none⟩ = some (.string a1_1) := (blk_cell BK140.out 1).trans rfl
        have hfz11_0 := blk_frozen BK140.out 0
        have hfz11_1 := blk_frozen BK140.out 1
        go_wp2_with (first | ((with_reducible refine gate_callee (f := 48) rfl ?_); refine goesL_ (some 18) rfl rfl Tryd.func48 (by kernel_rfl) rfl #[.int .i64 t141, .int .u64 a1_0] rfl (by (try simp only [List.map_toArray, List.map_cons, List.map_nil]); first | done | rfl | (simp only [List.length_drop, List.length_take]; rfl)) ?_; (with_reducible refine (interchangeref01_Put.calls k t141 a1_0 t142 t143 _ A7.out).mono ?_); rintro e w12 ⟨rfl, hb⟩; refine ⟨_, rfl, ?_⟩; have n0_ := Aside0.mk (blk_below (g := gb140) (o := .cells #[.int .u64 a1_0, .string a1_1] 56 (0, 0)) (by (with_reducible repeat (first | refine blk_drewN ?_ _ | refine blk_drew ?_ | refine blk_alloc ?_ _)); exact BK140.out) hb); have n1_ := Aside0.mk (below_step (by repeat (first | (with_reducible first | exact HB.out | apply below_alloc | apply pw_below_drewN | apply below_drew1 | refine below_set ?_ GE140.out) | exact HB.out)) hb); clear BK140; clear HB; have BK140 := n0_; have HB := n1_; clear n0_ n1_; (try clear hb); (try clear hb2); (try clear hk); (try clear hi)))
        go_ret
        exact ⟨by first | rfl | (simp [errW_none, errW_some] <;> rfl) | (simp [*, errW_none, errW_some] <;> rfl), by repeat (first | (with_reducible first | exact HB.out | apply below_alloc | apply pw_below_drewN | apply below_drew1 | refine below_set ?_ GE140.out) | exact HB.out)⟩
    · rw [if_neg c6] at H
      have c6b0 : decide (0 < t141) = false := decide_eq_false c6
      clear c6
      (first | rw [c6b0] | (simp only [i64_w, i32_w]; rw [c6b0]) | skip)
      have H' := Aside0.mk H
      clear H
      go_wp2
      go_meet
      case rel => exact ⟨_, H', ⟨by first | omega | exact Nat.le_refl _⟩, ⟨by (with_reducible repeat (first | refine blk_drewN ?_ _ | refine blk_drew ?_ | refine blk_alloc ?_ _)); exact BK140.out⟩, ⟨by repeat (first | (with_reducible first | exact HB.out | apply below_alloc | apply pw_below_drewN | apply below_drew1 | refine below_set ?_ GE140.out) | exact HB.out)⟩⟩
  case rest =>
    clear HC4
    try clear p2
    try clear c4
    try clear c5
    try clear c6
    try clear c6b0
    try clear c8
    try clear c8b0
    try clear c8b1
    try clear hcz11_0
    try clear hcz11_1
    try clear hcz9_0
    try clear hcz9_1
    try clear hfz11_0
    try clear hfz11_1
    try clear hfz9_0
    try clear hfz9_1
    obtain ⟨kq, HA, HJ3, BK140, HB⟩ := hcut
    cases kq with
    | zero => exact absurd HA.out (by simp [interchangeref06_val.j0])
    | succ kj3 =>
      have H := HA.out
      clear HA
      simp only [interchangeref06_val.j0] at H
      have HC13 := Aside0.mk H
      clear H
      go_upto_region 6 with (fail)
      go_cut [49] (fun v49 wc => ∃ (kq : Nat) (x49_12 : Bool), v49 = .bool x49_12 ∧ Aside0 (interchangeref06_val.j1 kq a0 t141 x49_12 a1_0 a1_1 = some r) ∧ Aside0 (kq ≤ kj3) ∧ Aside0 (wc.heap[gb140]? = some (.cells #[.int .u64 a1_0, .string a1_1] 56 (0, 0))) ∧ Aside0 (Below w.heap.size w wc))
      case first =>
        have H := HC13.out
        clear HC13
        by_cases c14 : a0 = 98
        · rw [if_pos c14] at H
          have c14b0 : (a0 == 98) = true := beq_iff_eq.mpr c14
          have c14b1 : (a0 != 98) = false := bne_eq_false_iff_eq.mpr c14
          clear c14
          (first | rw [c14b0] | (simp only [i64_w, i32_w]; rw [c14b0]) | skip)
          by_cases c15 : a1_0 > 1
          · rw [if_pos c15] at H
            have c15b0 : decide (1 < a1_0) = true := decide_eq_true c15
            clear c15
            have H' := Aside0.mk H
            clear H
            have hcz16_0 : wc.cell? ⟨gb140, 0, none⟩ = some (.int .u64 a1_0) := (blk_cell BK140.out 0).trans rfl
            have hcz16_1 : wc.cell? ⟨gb140, 1, none⟩ = some (.string a1_1) := (blk_cell BK140.out 1).trans rfl
            have hfz16_0 := blk_frozen BK140.out 0
            have hfz16_1 := blk_frozen BK140.out 1
            go_wp2
            go_meet
            case rel => exact ⟨_, (true), (by first | rfl | (simp; done) | (simp [*]; done)), H', ⟨by have := HJ3.out; first | omega | exact Nat.le_refl _⟩, ⟨by (with_reducible repeat (first | refine blk_drewN ?_ _ | refine blk_drew ?_ | refine blk_alloc ?_ _)); exact BK140.out⟩, ⟨by repeat (first | (with_reducible first | exact HB.out | apply below_alloc | apply pw_below_drewN | apply below_drew1 | refine below_set ?_ GE140.out) | exact HB.out)⟩⟩
          · rw [if_neg c15] at H
            have c15b0 : decide (1 < a1_0) = false := decide_eq_false c15
            clear c15
            by_cases c17 : a0 = 83
            · rw [if_pos c17] at H
              have c17b0 : (a0 == 83) = true := beq_iff_eq.mpr c17
              have c17b1 : (a0 != 83) = false := bne_eq_false_iff_eq.mpr c17
              clear c17
              by_cases c18 : (a1_1.size : Int) > 255
              · rw [if_pos c18] at H
                have c18b0 : decide (255 < (a1_1.size : Int)) = true := decide_eq_true c18
                have c18b1 : decide (255 < a1_1.size) = true := decide_eq_true (by omega)
                clear c18
                have H' := Aside0.mk H
                clear H
                have hcz19_0 : wc.cell? ⟨gb140, 0, none⟩ = some (.int .u64 a1_0) := (blk_cell BK140.out 0).trans rfl
                have hcz19_1 : wc.cell? ⟨gb140, 1, none⟩ = some (.string a1_1) := (blk_cell BK140.out 1).trans rfl
                have hfz19_0 := blk_frozen BK140.out 0
                have hfz19_1 := blk_frozen BK140.out 1
                go_wp2
                go_meet
                case rel => exact ⟨_, (true), (by first | rfl | (simp; done) | (simp [*]; done)), H', ⟨by have := HJ3.out; first | omega | exact Nat.le_refl _⟩, ⟨by (with_reducible repeat (first | refine blk_drewN ?_ _ | refine blk_drew ?_ | refine blk_alloc ?_ _)); exact BK140.out⟩, ⟨by repeat (first | (with_reducible first | exact HB.out | apply below_alloc | apply pw_below_drewN | apply below_drew1 | refine below_set ?_ GE140.out) | exact HB.out)⟩⟩
              · rw [if_neg c18] at H
                have c18b0 : decide (255 < (a1_1.size : Int)) = false := decide_eq_false c18
                have c18b1 : decide (255 < a1_1.size) = false := decide_eq_false (by omega)
                clear c18
                by_cases c20 : a0 = 76
                · rw [if_pos c20] at H
                  have c20b0 : (a0 == 76) = true := beq_iff_eq.mpr c20
                  have c20b1 : (a0 != 76) = false := bne_eq_false_iff_eq.mpr c20
                  clear c20
                  have H' := Aside0.mk H
                  clear H
                  have hcz21_0 : wc.cell? ⟨gb140, 0, none⟩ = some (.int .u64 a1_0) := (blk_cell BK140.out 0).trans rfl
                  have hcz21_1 : wc.cell? ⟨gb140, 1, none⟩ = some (.string a1_1) := (blk_cell BK140.out 1).trans rfl
                  have hfz21_0 := blk_frozen BK140.out 0
                  have hfz21_1 := blk_frozen BK140.out 1
                  go_wp2
                  go_meet
                  case rel => exact ⟨_, (decide ((a1_1.size : Int) > 131072)), (by first | rfl | (simp; done) | (simp [*]; done)), H', ⟨by have := HJ3.out; first | omega | exact Nat.le_refl _⟩, ⟨by (with_reducible repeat (first | refine blk_drewN ?_ _ | refine blk_drew ?_ | refine blk_alloc ?_ _)); exact BK140.out⟩, ⟨by repeat (first | (with_reducible first | exact HB.out | apply below_alloc | apply pw_below_drewN | apply below_drew1 | refine below_set ?_ GE140.out) | exact HB.out)⟩⟩
                · rw [if_neg c20] at H
                  have c20b0 : (a0 == 76) = false := beq_eq_false_iff_ne.mpr c20
                  have c20b1 : (a0 != 76) = true := bne_iff_ne.mpr c20
                  have H' := Aside0.mk H
                  clear H
                  have hcz22_0 : wc.cell? ⟨gb140, 0, none⟩ = some (.int .u64 a1_0) := (blk_cell BK140.out 0).trans rfl
                  have hcz22_1 : wc.cell? ⟨gb140, 1, none⟩ = some (.string a1_1) := (blk_cell BK140.out 1).trans rfl
                  have hfz22_0 := blk_frozen BK140.out 0
                  have hfz22_1 := blk_frozen BK140.out 1
                  go_wp2
                  go_meet
                  case rel => exact ⟨_, (false), (by first | rfl | (simp; done) | (simp [*]; done)), H', ⟨by have := HJ3.out; first | omega | exact Nat.le_refl _⟩, ⟨by (with_reducible repeat (first | refine blk_drewN ?_ _ | refine blk_drew ?_ | refine blk_alloc ?_ _)); exact BK140.out⟩, ⟨by repeat (first | (with_reducible first | exact HB.out | apply below_alloc | apply pw_below_drewN | apply below_drew1 | refine below_set ?_ GE140.out) | exact HB.out)⟩⟩
            · rw [if_neg c17] at H
              have c17b0 : (a0 == 83) = false := beq_eq_false_iff_ne.mpr c17
              have c17b1 : (a0 != 83) = true := bne_iff_ne.mpr c17
              by_cases c23 : a0 = 76
              · rw [if_pos c23] at H
                have c23b0 : (a0 == 76) = true := beq_iff_eq.mpr c23
                have c23b1 : (a0 != 76) = false := bne_eq_false_iff_eq.mpr c23
                clear c23
                have H' := Aside0.mk H
                clear H
                have hcz24_0 : wc.cell? ⟨gb140, 0, none⟩ = some (.int .u64 a1_0) := (blk_cell BK140.out 0).trans rfl
                have hcz24_1 : wc.cell? ⟨gb140, 1, none⟩ = some (.string a1_1) := (blk_cell BK140.out 1).trans rfl
                have hfz24_0 := blk_frozen BK140.out 0
                have hfz24_1 := blk_frozen BK140.out 1
                go_wp2
                go_meet
                case rel => exact ⟨_, (decide ((a1_1.size : Int) > 131072)), (by first | rfl | (simp; done) | (simp [*]; done)), H', ⟨by have := HJ3.out; first | omega | exact Nat.le_refl _⟩, ⟨by (with_reducible repeat (first | refine blk_drewN ?_ _ | refine blk_drew ?_ | refine blk_alloc ?_ _)); exact BK140.out⟩, ⟨by repeat (first | (with_reducible first | exact HB.out | apply below_alloc | apply pw_below_drewN | apply below_drew1 | refine below_set ?_ GE140.out) | exact HB.out)⟩⟩
              · rw [if_neg c23] at H
                have c23b0 : (a0 == 76) = false := beq_eq_false_iff_ne.mpr c23
                have c23b1 : (a0 != 76) = true := bne_iff_ne.mpr c23
                have H' := Aside0.mk H
                clear H
                have hcz25_0 : wc.cell? ⟨gb140, 0, none⟩ = some (.int .u64 a1_0) := (blk_cell BK140.out 0).trans rfl
                have hcz25_1 : wc.cell? ⟨gb140, 1, none⟩ = some (.string a1_1) := (blk_cell BK140.out 1).trans rfl
                have hfz25_0 := blk_frozen BK140.out 0
                have hfz25_1 := blk_frozen BK140.out 1
                go_wp2
                go_meet
                case rel => exact ⟨_, (false), (by first | rfl | (simp; done) | (simp [*]; done)), H', ⟨by have := HJ3.out; first | omega | exact Nat.le_refl _⟩, ⟨by (with_reducible repeat (first | refine blk_drewN ?_ _ | refine blk_drew ?_ | refine blk_alloc ?_ _)); exact BK140.out⟩, ⟨by repeat (first | (with_reducible first | exact HB.out | apply below_alloc | apply pw_below_drewN | apply below_drew1 | refine below_set ?_ GE140.out) | exact HB.out)⟩⟩
        · rw [if_neg c14] at H
          have c14b0 : (a0 == 98) = false := beq_eq_false_iff_ne.mpr c14
          have c14b1 : (a0 != 98) = true := bne_iff_ne.mpr c14
          (first | rw [c14b0] | (simp only [i64_w, i32_w]; rw [c14b0]) | skip)
          by_cases c26 : a0 = 83
          · rw [if_pos c26] at H
            have c26b0 : (a0 == 83) = true := beq_iff_eq.mpr c26
            have c26b1 : (a0 != 83) = false := bne_eq_false_iff_eq.mpr c26
            clear c26
            by_cases c27 : (a1_1.size : Int) > 255
            · rw [if_pos c27] at H
              have c27b0 : decide (255 < (a1_1.size : Int)) = true := decide_eq_true c27
              have c27b1 : decide (255 < a1_1.size) = true := decide_eq_true (by omega)
              clear c27
              have H' := Aside0.mk H
              clear H
              have hcz28_0 : wc.cell? ⟨gb140, 0, none⟩ = some (.int .u64 a1_0) := (blk_cell BK140.out 0).trans rfl
              have hcz28_1 : wc.cell? ⟨gb140, 1, none⟩ = some (.string a1_1) := (blk_cell BK140.out 1).trans rfl
              have hfz28_0 := blk_frozen BK140.out 0
              have hfz28_1 := blk_frozen BK140.out 1
              go_wp2
              go_meet
              case rel => exact ⟨_, (true), (by first | rfl | (simp; done) | (simp [*]; done)), H', ⟨by have := HJ3.out; first | omega | exact Nat.le_refl _⟩, ⟨by (with_reducible repeat (first | refine blk_drewN ?_ _ | refine blk_drew ?_ | refine blk_alloc ?_ _)); exact BK140.out⟩, ⟨by repeat (first | (with_reducible first | exact HB.out | apply below_alloc | apply pw_below_drewN | apply below_drew1 | refine below_set ?_ GE140.out) | exact HB.out)⟩⟩
            · rw [if_neg c27] at H
              have c27b0 : decide (255 < (a1_1.size : Int)) = false := decide_eq_false c27
              have c27b1 : decide (255 < a1_1.size) = false := decide_eq_false (by omega)
              clear c27
              by_cases c29 : a0 = 76
              · rw [if_pos c29] at H
                have c29b0 : (a0 == 76) = true := beq_iff_eq.mpr c29
                have c29b1 : (a0 != 76) = false := bne_eq_false_iff_eq.mpr c29
                clear c29
                have H' := Aside0.mk H
                clear H
                have hcz30_0 : wc.cell? ⟨gb140, 0, none⟩ = some (.int .u64 a1_0) := (blk_cell BK140.out 0).trans rfl
                have hcz30_1 : wc.cell? ⟨gb140, 1, none⟩ = some (.string a1_1) := (blk_cell BK140.out 1).trans rfl
                have hfz30_0 := blk_frozen BK140.out 0
                have hfz30_1 := blk_frozen BK140.out 1
                go_wp2
                go_meet
                case rel => exact ⟨_, (decide ((a1_1.size : Int) > 131072)), (by first | rfl | (simp; done) | (simp [*]; done)), H', ⟨by have := HJ3.out; first | omega | exact Nat.le_refl _⟩, ⟨by (with_reducible repeat (first | refine blk_drewN ?_ _ | refine blk_drew ?_ | refine blk_alloc ?_ _)); exact BK140.out⟩, ⟨by repeat (first | (with_reducible first | exact HB.out | apply below_alloc | apply pw_below_drewN | apply below_drew1 | refine below_set ?_ GE140.out) | exact HB.out)⟩⟩
              · rw [if_neg c29] at H
                have c29b0 : (a0 == 76) = false := beq_eq_false_iff_ne.mpr c29
                have c29b1 : (a0 != 76) = true := bne_iff_ne.mpr c29
                have H' := Aside0.mk H
                clear H
                have hcz31_0 : wc.cell? ⟨gb140, 0, none⟩ = some (.int .u64 a1_0) := (blk_cell BK140.out 0).trans rfl
                have hcz31_1 : wc.cell? ⟨gb140, 1, none⟩ = some (.string a1_1) := (blk_cell BK140.out 1).trans rfl
                have hfz31_0 := blk_frozen BK140.out 0
                have hfz31_1 := blk_frozen BK140.out 1
                go_wp2
                go_meet
                case rel => exact ⟨_, (false), (by first | rfl | (simp; done) | (simp [*]; done)), H', ⟨by have := HJ3.out; first | omega | exact Nat.le_refl _⟩, ⟨by (with_reducible repeat (first | refine blk_drewN ?_ _ | refine blk_drew ?_ | refine blk_alloc ?_ _)); exact BK140.out⟩, ⟨by repeat (first | (with_reducible first | exact HB.out | apply below_alloc | apply pw_below_drewN | apply below_drew1 | refine below_set ?_ GE140.out) | exact HB.out)⟩⟩
          · rw [if_neg c26] at H
            have c26b0 : (a0 == 83) = false := beq_eq_false_iff_ne.mpr c26
            have c26b1 : (a0 != 83) = true := bne_iff_ne.mpr c26
            by_cases c32 : a0 = 76
            · rw [if_pos c32] at H
              have c32b0 : (a0 == 76) = true := beq_iff_eq.mpr c32
              have c32b1 : (a0 != 76) = false := bne_eq_false_iff_eq.mpr c32
              clear c32
              have H' := Aside0.mk H
              clear H
              have hcz33_0 : wc.cell? ⟨gb140, 0, none⟩ = some (.int .u64 a1_0) := (blk_cell BK140.out 0).trans rfl
              have hcz33_1 : wc.cell? ⟨gb140, 1, none⟩ = some (.string a1_1) := (blk_cell BK140.out 1).trans rfl
              have hfz33_0 := blk_frozen BK140.out 0
              have hfz33_1 := blk_frozen BK140.out 1
              go_wp2
              go_meet
              case rel => exact ⟨_, (decide ((a1_1.size : Int) > 131072)), (by first | rfl | (simp; done) | (simp [*]; done)), H', ⟨by have := HJ3.out; first | omega | exact Nat.le_refl _⟩, ⟨by (with_reducible repeat (first | refine blk_drewN ?_ _ | refine blk_drew ?_ | refine blk_alloc ?_ _)); exact BK140.out⟩, ⟨by repeat (first | (with_reducible first | exact HB.out | apply below_alloc | apply pw_below_drewN | apply below_drew1 | refine below_set ?_ GE140.out) | exact HB.out)⟩⟩
            · rw [if_neg c32] at H
              have c32b0 : (a0 == 76) = false := beq_eq_false_iff_ne.mpr c32
              have c32b1 : (a0 != 76) = true := bne_iff_ne.mpr c32
              have H' := Aside0.mk H
              clear H
              go_wp2
              go_meet
              case rel => exact ⟨_, (false), (by first | rfl | (simp; done) | (simp [*]; done)), H', ⟨by have := HJ3.out; first | omega | exact Nat.le_refl _⟩, ⟨by (with_reducible repeat (first | refine blk_drewN ?_ _ | refine blk_drew ?_ | refine blk_alloc ?_ _)); exact BK140.out⟩, ⟨by repeat (first | (with_reducible first | exact HB.out | apply below_alloc | apply pw_below_drewN | apply below_drew1 | refine below_set ?_ GE140.out) | exact HB.out)⟩⟩
      case rest =>
        clear HC13
        try clear c1
        try clear c2
        try clear p2
        try clear c3
        try clear c4
        try clear c5
        try clear c6
        try clear c6b0
        try clear c8
        try clear c8b0
        try clear c8b1
        try clear c14
        try clear c14b0
        try clear c14b1
        try clear c15
        try clear c15b0
        try clear c17
        try clear c17b0
        try clear c17b1
        try clear c18
        try clear c18b0
        try clear c18b1
        try clear c20
        try clear c20b0
        try clear c20b1
        try clear c23
        try clear c23b0
        try clear c23b1
        try clear c26
        try clear c26b0
        try clear c26b1
        try clear c27
        try clear c27b0
        try clear c27b1
        try clear c29
        try clear c29b0
        try clear c29b1
        try clear c32
        try clear c32b0
        try clear c32b1
        try clear hcz11_0
        try clear hcz11_1
        try clear hcz16_0
        try clear hcz16_1
        try clear hcz19_0
        try clear hcz19_1
        try clear hcz21_0
        try clear hcz21_1
        try clear hcz22_0
        try clear hcz22_1
        try clear hcz24_0
        try clear hcz24_1
        try clear hcz25_0
        try clear hcz25_1
        try clear hcz28_0
        try clear hcz28_1
        try clear hcz30_0
        try clear hcz30_1
        try clear hcz31_0
        try clear hcz31_1
        try clear hcz33_0
        try clear hcz33_1
        try clear hcz9_0
        try clear hcz9_1
        try clear hfz11_0
        try clear hfz11_1
        try clear hfz16_0
        try clear hfz16_1
        try clear hfz19_0
        try clear hfz19_1
        try clear hfz21_0
        try clear hfz21_1
        try clear hfz22_0
        try clear hfz22_1
        try clear hfz24_0
        try clear hfz24_1
        try clear hfz25_0
        try clear hfz25_1
        try clear hfz28_0
        try clear hfz28_1
        try clear hfz30_0
        try clear hfz30_1
        try clear hfz31_0
        try clear hfz31_1
        try clear hfz33_0
        try clear hfz33_1
        try clear hfz9_0
        try clear hfz9_1
        try clear p2
        obtain ⟨kq, x49_12, rfl, HA, HJ12, BK140, HB⟩ := hcut
        cases kq with
        | zero => exact absurd HA.out (by simp [interchangeref06_val.j1])
        | succ kj12 =>
          have H := HA.out
          clear HA
          simp only [interchangeref06_val.j1] at H
          by_cases c34 : x49_12 = true
          · subst c34
            have H1 : (some 4) = some r := by rw [if_pos rfl] at H; exact H
            clear H
            have H := H1
            clear H1
            obtain rfl := Option.some.inj H
            go_wp2
            go_ret
            exact ⟨by first | rfl | (simp [errW_none, errW_some] <;> rfl) | (simp [*, errW_none, errW_some] <;> rfl), by repeat (first | (with_reducible first | exact HB.out | apply below_alloc | apply pw_below_drewN | apply below_drew1 | refine below_set ?_ GE140.out) | exact HB.out)⟩
          · replace c34 := Bool.eq_false_iff.mpr c34
            subst c34
            have H1 : (if t141 > 0 then (interchangeref06_val.j2 kj12 a0 true a1_0 a1_1) else (interchangeref06_val.j2 kj12 a0 (a0 == 98) a1_0 a1_1)) = some r := by rw [if_neg (show ¬ (false = true) by decide)] at H; exact H
            clear H
            have H := H1
            clear H1
            have HC35 := Aside0.mk H
            clear H
            go_upto_region 8 with (fail)
            go_cut [55] (fun v55 wc => ∃ (kq : Nat) (x55_34 : Bool), v55 = .bool x55_34 ∧ Aside0 (interchangeref06_val.j2 kq a0 x55_34 a1_0 a1_1 = some r) ∧ Aside0 (kq ≤ kj12) ∧ Aside0 (wc.heap[gb140]? = some (.cells #[.int .u64 a1_0, .string a1_1] 56 (0, 0))) ∧ Aside0 (Below w.heap.size w wc))
            case first =>
              have H := HC35.out
              clear HC35
              by_cases c36 : t141 > 0
              · rw [if_pos c36] at H
                have c36b0 : decide (0 < t141) = true := decide_eq_true c36
                clear c36
                (first | rw [c36b0] | (simp only [i64_w, i32_w]; rw [c36b0]) | skip)
                have H' := Aside0.mk H
                clear H
                go_wp2
                go_meet
                case rel => exact ⟨_, (true), (by first | rfl | (simp; done) | (simp [*]; done)), H', ⟨by have := HJ3.out; have := HJ12.out; first | omega | exact Nat.le_refl _⟩, ⟨by (with_reducible repeat (first | refine blk_drewN ?_ _ | refine blk_drew ?_ | refine blk_alloc ?_ _)); exact BK140.out⟩, ⟨by repeat (first | (with_reducible first | exact HB.out | apply below_alloc | apply pw_below_drewN | apply below_drew1 | refine below_set ?_ GE140.out) | exact HB.out)⟩⟩
              · rw [if_neg c36] at H
                have c36b0 : decide (0 < t141) = false := decide_eq_false c36
                clear c36
                (first | rw [c36b0] | (simp only [i64_w, i32_w]; rw [c36b0]) | skip)
                have H' := Aside0.mk H
                clear H
                go_wp2
                go_meet
                case rel => exact ⟨_, ((a0 == 98)), (by first | rfl | (simp; done) | (simp [*]; done)), H', ⟨by have := HJ3.out; have := HJ12.out; first | omega | exact Nat.le_refl _⟩, ⟨by (with_reducible repeat (first | refine blk_drewN ?_ _ | refine blk_drew ?_ | refine blk_alloc ?_ _)); exact BK140.out⟩, ⟨by repeat (first | (with_reducible first | exact HB.out | apply below_alloc | apply pw_below_drewN | apply below_drew1 | refine below_set ?_ GE140.out) | exact HB.out)⟩⟩
            case rest =>
              clear HC35
              try clear c1
              try clear c2
              try clear p2
              try clear c3
              try clear c4
              try clear c5
              try clear c6
              try clear c6b0
              try clear c8
              try clear c8b0
              try clear c8b1
              try clear c14
              try clear c14b0
              try clear c14b1
              try clear c15
              try clear c15b0
              try clear c17
              try clear c17b0
              try clear c17b1
              try clear c18
              try clear c18b0
              try clear c18b1
              try clear c20
              try clear c20b0
              try clear c20b1
              try clear c23
              try clear c23b0
              try clear c23b1
              try clear c26
              try clear c26b0
              try clear c26b1
              try clear c27
              try clear c27b0
              try clear c27b1
              try clear c29
              try clear c29b0
              try clear c29b1
              try clear c32
              try clear c32b0
              try clear c32b1
              try clear c34
              try clear c36
              try clear c36b0
              try clear hcz11_0
              try clear hcz11_1
              try clear hcz16_0
              try clear hcz16_1
              try clear hcz19_0
              try clear hcz19_1
              try clear hcz21_0
              try clear hcz21_1
              try clear hcz22_0
              try clear hcz22_1
              try clear hcz24_0
              try clear hcz24_1
              try clear hcz25_0
              try clear hcz25_1
              try clear hcz28_0
              try clear hcz28_1
              try clear hcz30_0
              try clear hcz30_1
              try clear hcz31_0
              try clear hcz31_1
              try clear hcz33_0
              try clear hcz33_1
              try clear hcz9_0
              try clear hcz9_1
              try clear hfz11_0
              try clear hfz11_1
              try clear hfz16_0
              try clear hfz16_1
              try clear hfz19_0
              try clear hfz19_1
              try clear hfz21_0
              try clear hfz21_1
              try clear hfz22_0
              try clear hfz22_1
              try clear hfz24_0
              try clear hfz24_1
              try clear hfz25_0
              try clear hfz25_1
              try clear hfz28_0
              try clear hfz28_1
              try clear hfz30_0
              try clear hfz30_1
              try clear hfz31_0
              try clear hfz31_1
              try clear hfz33_0
              try clear hfz33_1
              try clear hfz9_0
              try clear hfz9_1
              try clear p2
              obtain ⟨kq, x55_34, rfl, HA, HJ34, BK140, HB⟩ := hcut
              cases kq with
              | zero => exact absurd HA.out (by simp [interchangeref06_val.j2])
              | succ kj34 =>
                have H := HA.out
                clear HA
                simp only [interchangeref06_val.j2] at H
                by_cases c37 : x55_34 = true
                · subst c37
                  have H1 : (if (a1_1.size : Int) > 0 then (some 1) else (some 0)) = some r := by rw [if_pos rfl] at H; exact H
                  clear H
                  have H := H1
                  clear H1
                  by_cases c38 : (a1_1.size : Int) > 0
                  · rw [if_pos c38] at H
                    have c38b0 : decide (0 < (a1_1.size : Int)) = true := decide_eq_true c38
                    have c38b1 : decide (0 < a1_1.size) = true := decide_eq_true (by omega)
                    clear c38
                    obtain rfl := Option.some.inj H
                    have hcz39_0 : wc.cell? ⟨gb140, 0, none⟩ = some (.int .u64 a1_0) := (blk_cell BK140.out 0).trans rfl
                    have hcz39_1 : wc.cell? ⟨gb140, 1, none⟩ = some (.string a1_1) := (blk_cell BK140.out 1).trans rfl
                    have hfz39_0 := blk_frozen BK140.out 0
                    have hfz39_1 := blk_frozen BK140.out 1
                    go_wp2
                    go_ret
                    exact ⟨by first | rfl | (simp [errW_none, errW_some] <;> rfl) | (simp [*, errW_none, errW_some] <;> rfl), by repeat (first | (with_reducible first | exact HB.out | apply below_alloc | apply pw_below_drewN | apply below_drew1 | refine below_set ?_ GE140.out) | exact HB.out)⟩
                  · rw [if_neg c38] at H
                    have c38b0 : decide (0 < (a1_1.size : Int)) = false := decide_eq_false c38
                    have c38b1 : decide (0 < a1_1.size) = false := decide_eq_false (by omega)
                    clear c38
                    obtain rfl := Option.some.inj H
                    have hcz40_0 : wc.cell? ⟨gb140, 0, none⟩ = some (.int .u64 a1_0) := (blk_cell BK140.out 0).trans rfl
                    have hcz40_1 : wc.cell? ⟨gb140, 1, none⟩ = some (.string a1_1) := (blk_cell BK140.out 1).trans rfl
                    have hfz40_0 := blk_frozen BK140.out 0
                    have hfz40_1 := blk_frozen BK140.out 1
                    go_wp2
                    go_ret
                    exact ⟨by first | rfl | (simp [errW_none, errW_some] <;> rfl) | (simp [*, errW_none, errW_some] <;> rfl), by repeat (first | (with_reducible first | exact HB.out | apply below_alloc | apply pw_below_drewN | apply below_drew1 | refine below_set ?_ GE140.out) | exact HB.out)⟩
                · replace c37 := Bool.eq_false_iff.mpr c37
                  subst c37
                  have H1 : (if a1_0 = 0 then (if a0 = 84 then ((interchangeref03_Deep.f kj34 a1_1).bind fun bt144 => (if bt144.2 = 0 then (some 0) else (some 3))) else (some 0)) else (some 1)) = some r := by rw [if_neg (show ¬ (false = true) by decide)] at H; exact H
                  clear H
                  have H := H1
                  clear H1
                  by_cases c41 : a1_0 = 0
                  · rw [if_pos c41] at H
                    have c41b0 : (a1_0 == 0) = true := beq_iff_eq.mpr c41
                    have c41b1 : (a1_0 != 0) = false := bne_eq_false_iff_eq.mpr c41
                    clear c41
                    by_cases c42 : a0 = 84
                    · rw [if_pos c42] at H
                      have c42b0 : (a0 == 84) = true := beq_iff_eq.mpr c42
                      have c42b1 : (a0 != 84) = false := bne_eq_false_iff_eq.mpr c42
                      clear c42
                      replace H := Option.bind_eq_some_iff.mp H
                      obtain ⟨⟨t144, t145⟩, A430, H⟩ := H
                      replace H : (if t145 = 0 then (some 0) else (some 3)) = some r := H
                      have A43 := Aside0.mk A430
                      clear A430
                      by_cases c44 : t145 = 0
                      · rw [if_pos c44] at H
                        have c44b0 : (t145 == 0) = true := beq_iff_eq.mpr c44
                        have c44b1 : (t145 != 0) = false := bne_eq_false_iff_eq.mpr c44
                        clear c44
                        obtain rfl := Option.some.inj H
                        have hcz45_0 : wc.cell? ⟨gb140, 0, none⟩ = some (.int .u64 a1_0) := (blk_cell BK140.out 0).trans rfl
                        have hcz45_1 : wc.cell? ⟨gb140, 1, none⟩ = some (.string a1_1) := (blk_cell BK140.out 1).trans rfl
                        have hfz45_0 := blk_frozen BK140.out 0
                        have hfz45_1 := blk_frozen BK140.out 1
                        go_wp2_with (first | ((with_reducible refine gate_callee (f := 119) rfl ?_); refine goesL_ (some 68) rfl rfl Tryd.func119 (by kernel_rfl) rfl #[.string a1_1] rfl (by (try simp only [List.map_toArray, List.map_cons, List.map_nil]); first | done | rfl | (simp only [List.length_drop, List.length_take]; rfl)) ?_; (with_reducible refine (interchangeref03_Deep.calls kj34 a1_1 t144 t145 _ A43.out).mono ?_); rintro e w' ⟨rfl, ⟨nd, rfl⟩⟩; refine ⟨_, rfl, ?_⟩))
                        go_ret
                        exact ⟨by first | rfl | (simp [errW_none, errW_some] <;> rfl) | (simp [*, errW_none, errW_some] <;> rfl), by repeat (first | (with_reducible first | exact HB.out | apply below_alloc | apply pw_below_drewN | apply below_drew1 | refine below_set ?_ GE140.out) | exact HB.out)⟩
                      · rw [if_neg c44] at H
                        have c44b0 : (t145 == 0) = false := beq_eq_false_iff_ne.mpr c44
                        have c44b1 : (t145 != 0) = true := bne_iff_ne.mpr c44
                        obtain rfl := Option.some.inj H
                        have hcz46_0 : wc.cell? ⟨gb140, 0, none⟩ = some (.int .u64 a1_0) := (blk_cell BK140.out 0).trans rfl
                        have hcz46_1 : wc.cell? ⟨gb140, 1, none⟩ = some (.string a1_1) := (blk_cell BK140.out 1).trans rfl
                        have hfz46_0 := blk_frozen BK140.out 0
                        have hfz46_1 := blk_frozen BK140.out 1
                        go_wp2_with (first | ((with_reducible refine gate_callee (f := 119) rfl ?_); refine goesL_ (some 68) rfl rfl Tryd.func119 (by kernel_rfl) rfl #[.string a1_1] rfl (by (try simp only [List.map_toArray, List.map_cons, List.map_nil]); first | done | rfl | (simp only [List.length_drop, List.length_take]; rfl)) ?_; (with_reducible refine (interchangeref03_Deep.calls kj34 a1_1 t144 t145 _ A43.out).mono ?_); rintro e w' ⟨rfl, ⟨nd, rfl⟩⟩; refine ⟨_, rfl, ?_⟩))
                        go_ret
                        exact ⟨by first | rfl | (simp [errW_none, errW_some] <;> rfl) | (simp [*, errW_none, errW_some] <;> rfl), by repeat (first | (with_reducible first | exact HB.out | apply below_alloc | apply pw_below_drewN | apply below_drew1 | refine below_set ?_ GE140.out) | exact HB.out)⟩
                    · rw [if_neg c42] at H
                      have c42b0 : (a0 == 84) = false := beq_eq_false_iff_ne.mpr c42
                      have c42b1 : (a0 != 84) = true := bne_iff_ne.mpr c42
                      obtain rfl := Option.some.inj H
                      have hcz47_0 : wc.cell? ⟨gb140, 0, none⟩ = some (.int .u64 a1_0) := (blk_cell BK140.out 0).trans rfl
                      have hcz47_1 : wc.cell? ⟨gb140, 1, none⟩ = some (.string a1_1) := (blk_cell BK140.out 1).trans rfl
                      have hfz47_0 := blk_frozen BK140.out 0
                      have hfz47_1 := blk_frozen BK140.out 1
                      go_wp2
                      go_ret
                      exact ⟨by first | rfl | (simp [errW_none, errW_some] <;> rfl) | (simp [*, errW_none, errW_some] <;> rfl), by repeat (first | (with_reducible first | exact HB.out | apply below_alloc | apply pw_below_drewN | apply below_drew1 | refine below_set ?_ GE140.out) | exact HB.out)⟩
                  · rw [if_neg c41] at H
                    have c41b0 : (a1_0 == 0) = false := beq_eq_false_iff_ne.mpr c41
                    have c41b1 : (a1_0 != 0) = true := bne_iff_ne.mpr c41
                    obtain rfl := Option.some.inj H
                    have hcz48_0 : wc.cell? ⟨gb140, 0, none⟩ = some (.int .u64 a1_0) := (blk_cell BK140.out 0).trans rfl
                    have hcz48_1 : wc.cell? ⟨gb140, 1, none⟩ = some (.string a1_1) := (blk_cell BK140.out 1).trans rfl
                    have hfz48_0 := blk_frozen BK140.out 0
                    have hfz48_1 := blk_frozen BK140.out 1
                    go_wp2
                    go_ret
                    exact ⟨by first | rfl | (simp [errW_none, errW_some] <;> rfl) | (simp [*, errW_none, errW_some] <;> rfl), by repeat (first | (with_reducible first | exact HB.out | apply below_alloc | apply pw_below_drewN | apply below_drew1 | refine below_set ?_ GE140.out) | exact HB.out)⟩

end Go.Proofs.YtdogcnadopepmaaDoor.H
