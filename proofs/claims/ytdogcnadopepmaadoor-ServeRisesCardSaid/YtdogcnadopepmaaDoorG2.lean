/- Texts of this seat's, one behind the other (merge.py). -/
import Derived.Test.YtdogcnadopepmaaDoorH0
import Derived.Lib.Hide
set_option linter.unusedVariables false
set_option linter.unusedSimpArgs false
/- The package variable num.widths holds what its text lays ('Wd'); num.width by its contract. -/
section
namespace Go.Proofs.YtdogcnadopepmaaDoor.M
open Go.RowKit Go.Proofs.YtdogcnadopepmaaDoorW.PrintWords Go.Proofs.YtdogcnadopepmaaDoorW.PrintLast

/-- num.widths, as its text lays it, in the first block. -/
structure Wd (w : World) : Prop where
  at_ : ∃ t, w.heap[0]? = some (.cells #[.int .i64 1, .int .i64 2, .int .i64 4, .int .i64 8] t (0, 0))
theorem Wd.lt {w : World} (h : Wd w) : 0 < w.heap.size := by
  obtain ⟨t, h⟩ := h.at_
  exact (Array.getElem?_eq_some_iff.1 h).1
theorem Wd.up {w w' : World} (h : Wd w) (hb : Below w.heap.size w w') : Wd w' := ⟨h.at_.imp fun t e => (hb.block 0 h.lt).trans e⟩
theorem Wd.drewN {w : World} (h : Wd w) (n : Nat) : Wd (w.drewN n) := ⟨h.at_⟩
theorem Wd.cells {w : World} (h : Wd w) : w.cell? ⟨0, 0, none⟩ = some (.int .i64 1) ∧ w.cell? ⟨0, 1, none⟩ = some (.int .i64 2) ∧ w.cell? ⟨0, 2, none⟩ = some (.int .i64 4) ∧ w.cell? ⟨0, 3, none⟩ = some (.int .i64 8) := by
  obtain ⟨t, this⟩ := h.at_
  simp [World.cell?, this]

def num_width.f (a0 : Int) : Option Bool := some (a0 == 1 || a0 == 2 || a0 == 4 || a0 == 8)

set_option maxRecDepth 100000 in
set_option maxHeartbeats 2000000 in
theorem index4 (a : Int) (w : World) (hWd : Wd w) : Calls Tryd.prog 142 #[.slice (some ⟨0, 0, none⟩) 4 4, .int .i64 a] w fun e w' =>
    (∃ r : Int, e = .returned (.int .i64 r) ∧ (decide (0 ≤ r) = (a == 1 || a == 2 || a == 4 || a == 8))) ∧ w' = w := by
  obtain ⟨c0, c1, c2, c3⟩ := hWd.cells
  clear hWd
  go_enter Tryd.func142, Tryd.ntmps142
  go_wp2
  refine wp_loop_rounds 5 ?_
  rw [rounds_succ]
  go_wp2
  · have h0 : (a == 1) = true := by assumption
    go_ret
    exact ⟨⟨_, rfl, by simp [h0]⟩, rfl⟩
  rw [rounds_succ]
  go_wp2
  · have h0 : (a == 2) = true := by assumption
    go_ret
    exact ⟨⟨_, rfl, by simp [h0]⟩, rfl⟩
  rw [rounds_succ]
  go_wp2
  · have h0 : (a == 4) = true := by assumption
    go_ret
    exact ⟨⟨_, rfl, by simp [h0]⟩, rfl⟩
  rw [rounds_succ]
  go_wp2
  · have h0 : (a == 8) = true := by assumption
    go_ret
    exact ⟨⟨_, rfl, by simp [h0]⟩, rfl⟩
  rw [rounds_succ]
  go_wp2
  go_ret
  have h1 : (a == 1) = false := by assumption
  have h2 : (a == 2) = false := by assumption
  have h4 : (a == 4) = false := by assumption
  have h8 : (a == 8) = false := by assumption
  exact ⟨⟨_, rfl, by simp [h1, h2, h4, h8]⟩, rfl⟩

set_option maxRecDepth 100000 in
set_option maxHeartbeats 2000000 in
theorem contains4 (a : Int) (w : World) (hWd : Wd w) : Calls Tryd.prog 118 #[.slice (some ⟨0, 0, none⟩) 4 4, .int .i64 a] w fun e w' =>
    e = .returned (.bool (a == 1 || a == 2 || a == 4 || a == 8)) ∧ w' = w := by
  have C := index4 a w hWd
  generalize (a == 1 || a == 2 || a == 4 || a == 8) = b at *
  have HC := Lib.hid C
  clear C hWd
  go_enter Tryd.func118, Tryd.ntmps118
  go_wp2_with (go_at_call 142; refine HC.out.mono ?_; rintro e w' ⟨⟨r, rfl, hr⟩, rfl⟩)
  go_ret
  first | exact ⟨rfl, rfl⟩ | (simp)

set_option maxRecDepth 100000 in
set_option maxHeartbeats 2000000 in
theorem num_width.calls (a0 : Int) (r : Bool) (w : World) (h : num_width.f a0 = some r) (hWd : Wd w := by first | (with_reducible assumption) | exact hWd.drewN _ | exact Wd.up hWd (by repeat (first | (with_reducible first | exact HB.out | apply below_alloc | apply pw_below_drewN | apply below_drew1) | exact HB.out))) :
    Calls Tryd.prog 80 #[.int .i64 a0] w fun e w' => e = .returned (.bool r) ∧ Drawn0 w w' := by
  have C := contains4 a0 w hWd
  simp only [num_width.f, Option.some.injEq] at h
  subst h
  generalize (a0 == 1 || a0 == 2 || a0 == 4 || a0 == 8) = b at *
  have HC := Lib.hid C
  clear C hWd
  go_enter Tryd.func80, Tryd.ntmps80
  go_wp2_with (go_at_call 118; refine HC.out.mono ?_; rintro e w' ⟨rfl, rfl⟩)
  go_ret
  exact ⟨rfl, Drawn0.refl _⟩
end Go.Proofs.YtdogcnadopepmaaDoor.M
end

/- Laid by a program of this session's (hyb.py) over the kit's print: functions and their contracts, some callees' contracts being typed by hand. -/
section
namespace Go.Proofs.YtdogcnadopepmaaDoor.H
open Go.RowKit Go.Proofs.YtdogcnadopepmaaDoorW.PrintWords Go.Proofs.YtdogcnadopepmaaDoorW.PrintLast Go.Proofs.YtdogcnadopepmaaDoorW.PrintMore
attribute [local go_sem] max2_int min2_int max_two min_two max_three min_three max_four min_four   -- for this text's walks alone
set_option linter.unusedVariables false
set_option linter.unusedSimpArgs false

/-! ### num_Skip: function 160 -/
def num_Skip.f (a0 : ByteArray) (a1 : Int) : Option (ByteArray × ByteArray × Int) := if a1 > (IntKind.u64.wrap ((a0.size : Int))) then (some ((⟨#[]⟩ : ByteArray), (⟨#[]⟩ : ByteArray), 2)) else (if 0 ≤ a1 then (if a1 ≤ (a0.size : Int) then (some (a0.extract 0 (a1 : Int).toNat, a0.extract (a1 : Int).toNat a0.size, 0)) else (none)) else (none))
set_option maxHeartbeats 8000000 in
set_option maxRecDepth 100000 in
theorem num_Skip.calls (a0 : ByteArray) (a1 : Int) (r1 : ByteArray) (r2 : ByteArray) (r3 : Int) (w : World) (h : num_Skip.f a0 a1 = some (r1, r2, r3)) :
    Calls Tryd.prog 160 #[.string a0, .int .u64 a1] w fun e w' => e = .returned (.tuple #[.string r1, .string r2, .int .i64 r3]) ∧ Drawn0 w w' := by
  have H : (if a1 > (IntKind.u64.wrap ((a0.size : Int))) then (some ((⟨#[]⟩ : ByteArray), (⟨#[]⟩ : ByteArray), 2)) else (if 0 ≤ a1 then (if a1 ≤ (a0.size : Int) then (some (a0.extract 0 (a1 : Int).toNat, a0.extract (a1 : Int).toNat a0.size, 0)) else (none)) else (none))) = some (r1, r2, r3) := h
  clear h
  by_cases c3 : a1 > (IntKind.u64.wrap ((a0.size : Int)))
  · rw [if_pos c3] at H
    have c3b0 : decide ((IntKind.u64.wrap ((a0.size : Int))) < a1) = true := decide_eq_true c3
    clear c3
    simp only [Option.some.injEq, Prod.mk.injEq] at H
    obtain ⟨rfl, rfl, rfl⟩ := H
    go_enter Tryd.func160, Tryd.ntmps160
    go_wp2
    repeat (go_quiet (fail); try go_wp2)
    go_ret3
    exact ⟨by first | rfl | (simp; done) | (simp [*]; done), by repeat (first | exact Drawn0.refl _ | apply Drawn0.step)⟩
  · rw [if_neg c3] at H
    have c3b0 : decide ((IntKind.u64.wrap ((a0.size : Int))) < a1) = false := decide_eq_false c3
    clear c3
    by_cases c4 : 0 ≤ a1
    · rw [if_pos c4] at H
      have c4b0 := eq_true c4
      have c4b1 : decide (0 ≤ a1) = true := decide_eq_true c4
      clear c4
      by_cases c5 : a1 ≤ (a0.size : Int)
      · rw [if_pos c5] at H
        have c5b0 := eq_true c5
        have c5b1 : decide (a1 ≤ (a0.size : Int)) = true := decide_eq_true c5
        clear c5
        have c6b0 := eq_true (of_decide_eq_true (by first | (with_reducible assumption) | assumption) : 0 ≤ a1)
        have c7b0 := eq_true (of_decide_eq_true (by first | (with_reducible assumption) | assumption) : a1 ≤ (a0.size : Int))
        simp only [Option.some.injEq, Prod.mk.injEq] at H
        obtain ⟨rfl, rfl, rfl⟩ := H
        go_enter Tryd.func160, Tryd.ntmps160
        go_wp2
        repeat (go_quiet (fail); try go_wp2)
        go_ret3
        exact ⟨by first | rfl | (simp; done) | (simp [*]; done), by repeat (first | exact Drawn0.refl _ | apply Drawn0.step)⟩
      · rw [if_neg c5] at H
        exact absurd H (by simp)
    · rw [if_neg c4] at H
      exact absurd H (by simp)

end Go.Proofs.YtdogcnadopepmaaDoor.H
end

/- Laid by a program of this session's (hyb.py) over the kit's print: functions and their contracts, some callees' contracts being typed by hand. -/
section
namespace Go.Proofs.YtdogcnadopepmaaDoor.H
open Go.RowKit Go.Proofs.YtdogcnadopepmaaDoorW.PrintWords Go.Proofs.YtdogcnadopepmaaDoorW.PrintLast Go.Proofs.YtdogcnadopepmaaDoorW.PrintMore
attribute [local go_sem] max2_int min2_int max_two min_two max_three min_three max_four min_four   -- for this text's walks alone
set_option linter.unusedVariables false
set_option linter.unusedSimpArgs false

/-! ### table_taken: function 147 -/
def table_taken.f (a0 : ByteArray) (a1 : ByteArray) (a2 : Int) : Option (ByteArray × ByteArray × Int) := if a2 = 0 then (if 0 ≤ (wrap64 ((a0.size : Int) - (a1.size : Int))) then (if (wrap64 ((a0.size : Int) - (a1.size : Int))) ≤ (a0.size : Int) then (some (a0.extract 0 ((wrap64 ((a0.size : Int) - (a1.size : Int))) : Int).toNat, a1, 0)) else (none)) else (none)) else (some ((⟨#[]⟩ : ByteArray), (⟨#[]⟩ : ByteArray), a2))
set_option maxHeartbeats 8000000 in
set_option maxRecDepth 100000 in
theorem table_taken.calls (a0 : ByteArray) (a1 : ByteArray) (a2 : Int) (r1 : ByteArray) (r2 : ByteArray) (r3 : Int) (w : World) (h : table_taken.f a0 a1 a2 = some (r1, r2, r3)) :
    Calls Tryd.prog 147 #[.string a0, .string a1, .int .i64 a2] w fun e w' => e = .returned (.tuple #[.string r1, .string r2, .int .i64 r3]) ∧ Drawn0 w w' := by
  have H : (if a2 = 0 then (if 0 ≤ (wrap64 ((a0.size : Int) - (a1.size : Int))) then (if (wrap64 ((a0.size : Int) - (a1.size : Int))) ≤ (a0.size : Int) then (some (a0.extract 0 ((wrap64 ((a0.size : Int) - (a1.size : Int))) : Int).toNat, a1, 0)) else (none)) else (none)) else (some ((⟨#[]⟩ : ByteArray), (⟨#[]⟩ : ByteArray), a2))) = some (r1, r2, r3) := h
  clear h
  by_cases c4 : a2 = 0
  · rw [if_pos c4] at H
    have c4b0 : (a2 == 0) = true := beq_iff_eq.mpr c4
    have c4b1 : (a2 != 0) = false := bne_eq_false_iff_eq.mpr c4
    clear c4
    obtain ⟨ji5, hji5⟩ : ∃ j_ : Int, (wrap64 ((a0.size : Int) - (a1.size : Int))) = j_ := ⟨_, rfl⟩
    replace H : (if 0 ≤ (ji5) then (if (ji5) ≤ (a0.size : Int) then (some (a0.extract 0 ((ji5) : Int).toNat, a1, 0)) else (none)) else (none)) = some (r1, r2, r3) := by first | (rw [hji5] at H; exact H) | (simp only [hji5] at H ⊢; exact H)
    have hji5w : (IntKind.i64.wrap ((a0.size : Int) - (a1.size : Int))) = ji5 := (i64_w _).trans hji5
    by_cases c6 : 0 ≤ (ji5)
    · rw [if_pos c6] at H
      have c6b0 := eq_true c6
      have c6b1 : decide (0 ≤ (ji5)) = true := decide_eq_true c6
      clear c6
      by_cases c7 : (ji5) ≤ (a0.size : Int)
      · rw [if_pos c7] at H
        have c7b0 := eq_true c7
        have c7b1 : decide ((ji5) ≤ (a0.size : Int)) = true := decide_eq_true c7
        clear c7
        simp only [Option.some.injEq, Prod.mk.injEq] at H
        obtain ⟨rfl, rfl, rfl⟩ := H
        go_enter Tryd.func147, Tryd.ntmps147
        go_wp2
        go_ret3
        exact ⟨by first | rfl | (simp; done) | (simp only [← hji5] <;> (first | rfl | simp)) | (simp [*]; done), by repeat (first | exact Drawn0.refl _ | apply Drawn0.step)⟩
      · rw [if_neg c7] at H
        exact absurd H (by simp)
    · rw [if_neg c6] at H
      exact absurd H (by simp)
  · rw [if_neg c4] at H
    have c4b0 : (a2 == 0) = false := beq_eq_false_iff_ne.mpr c4
    have c4b1 : (a2 != 0) = true := bne_iff_ne.mpr c4
    simp only [Option.some.injEq, Prod.mk.injEq] at H
    obtain ⟨rfl, rfl, rfl⟩ := H
    go_enter Tryd.func147, Tryd.ntmps147
    go_wp2
    go_ret3
    exact ⟨by first | rfl | (simp; done) | (simp [*]; done), by repeat (first | exact Drawn0.refl _ | apply Drawn0.step)⟩

end Go.Proofs.YtdogcnadopepmaaDoor.H
end

/- Laid by a program of this session's (hyb.py) over the kit's print: functions and their contracts, some callees' contracts being typed by hand. -/
section
namespace Go.Proofs.YtdogcnadopepmaaDoor.H
open Go.RowKit Go.Proofs.YtdogcnadopepmaaDoor.M Go.Proofs.YtdogcnadopepmaaDoorW.PrintWords Go.Proofs.YtdogcnadopepmaaDoorW.PrintLast Go.Proofs.YtdogcnadopepmaaDoorW.PrintMore
attribute [local go_sem] max2_int min2_int max_two min_two max_three min_three max_four min_four   -- for this text's walks alone
set_option linter.unusedVariables false
set_option linter.unusedSimpArgs false

/-! ### num_Take: function 85 -/
def num_Take.l0 : Nat → ByteArray → Int → Int → Int → Int → Option (Int × ByteArray × Int)
  | 0, _, _, _, _, _ => none
  | k + 1, x0, x1, x7, x18, x19 => if x19 < x18 then (if 0 ≤ x19 then (if x19 < (x0.size : Int) then (num_Take.l0 k x0 x1 (Go.bits .or .u64 (IntKind.u64.wrap (x7 * 256)) (IntKind.u64.wrap (bt x0 x19))) x18 (wrap64 (x19 + 1))) else (none)) else (none)) else (if 0 ≤ x1 then (if x1 ≤ (x0.size : Int) then (some (x7, x0.extract (x1 : Int).toNat x0.size, 0)) else (none)) else (none))
def num_Take.f (k : Nat) (a0 : ByteArray) (a1 : Int) : Option (Int × ByteArray × Int) := (num_width.f a1).bind fun t182 => (if t182 = true then (if (a0.size : Int) < a1 then (some (0, (⟨#[]⟩ : ByteArray), 2)) else (num_Take.l0 k a0 a1 0 a1 0)) else (some (0, (⟨#[]⟩ : ByteArray), 1)))
theorem num_Take.mono_l : ∀ k, (∀ y0 y1 y2 y3 y4, LeO (num_Take.l0 k y0 y1 y2 y3 y4) (num_Take.l0 (k + 1) y0 y1 y2 y3 y4))
  | 0 => fun _ _ _ _ _ r h => by simp [num_Take.l0] at h
  | k + 1 => by
    have ih0 := num_Take.mono_l k
    · intro y0 y1 y2 y3 y4
      unfold num_Take.l0
      repeat' first
      | (with_reducible exact ih0 _ _ _ _ _)
      | (with_reducible exact LeO.refl _)
      | (with_reducible exact LeO.none _)
      | (with_reducible refine LeO.ite ?_ ?_)
      | (with_reducible refine LeO.bind ?_ (fun _ => ?_))
      | exact ih0 _ _ _ _ _
      | exact LeO.none _
      | refine LeO.ite ?_ ?_
      | refine LeO.bind ?_ (fun _ => ?_)
theorem num_Take.mono : ∀ a0 a1 k, LeO (num_Take.f k a0 a1) (num_Take.f (k + 1) a0 a1) := by
  intro a0 a1 k
  have ih0 := num_Take.mono_l k
  unfold num_Take.f
  repeat' first
      | (with_reducible exact ih0 _ _ _ _ _)
      | (with_reducible exact LeO.refl _)
      | (with_reducible exact LeO.none _)
      | (with_reducible refine LeO.ite ?_ ?_)
      | (with_reducible refine LeO.bind ?_ (fun _ => ?_))
      | exact ih0 _ _ _ _ _
      | exact LeO.none _
      | refine LeO.ite ?_ ?_
      | refine LeO.bind ?_ (fun _ => ?_)
set_option maxHeartbeats 8000000 in
set_option maxRecDepth 100000 in
theorem num_Take.calls (k : Nat) (a0 : ByteArray) (a1 : Int) (r1 : Int) (r2 : ByteArray) (r3 : Int) (w : World) (h : num_Take.f k a0 a1 = some (r1, r2, r3)) (hWd : Wd w := by first | (with_reducible assumption) | exact hWd.drewN _ | exact Wd.up hWd (by repeat (first | (with_reducible first | exact HB.out | apply below_alloc | apply pw_below_drewN | apply below_drew1) | exact HB.out))) :
    Calls Tryd.prog 85 #[.string a0, .int .i64 a1] w fun e w' => e = .returned (.tuple #[.int .u64 r1, .string r2, .int .i64 r3]) ∧ Drawn0 w w' := by
  have H : ((num_width.f a1).bind fun t182 => (if t182 = true then (if (a0.size : Int) < a1 then (some (0, (⟨#[]⟩ : ByteArray), 2)) else (num_Take.l0 k a0 a1 0 a1 0)) else (some (0, (⟨#[]⟩ : ByteArray), 1)))) = some (r1, r2, r3) := h
  clear h
  replace H := Option.bind_eq_some_iff.mp H
  obtain ⟨t182, A30, H⟩ := H
  replace H : (if t182 = true then (if (a0.size : Int) < a1 then (some (0, (⟨#[]⟩ : ByteArray), 2)) else (num_Take.l0 k a0 a1 0 a1 0)) else (some (0, (⟨#[]⟩ : ByteArray), 1))) = some (r1, r2, r3) := H
  have A3 := Aside0.mk A30
  clear A30
  by_cases c4 : t182 = true
  · subst c4
    have H1 : (if (a0.size : Int) < a1 then (some (0, (⟨#[]⟩ : ByteArray), 2)) else (num_Take.l0 k a0 a1 0 a1 0)) = some (r1, r2, r3) := by rw [if_pos rfl] at H; exact H
    clear H
    have H := H1
    clear H1
    by_cases c5 : (a0.size : Int) < a1
    · rw [if_pos c5] at H
      have c5b0 : decide ((a0.size : Int) < a1) = true := decide_eq_true c5
      clear c5
      simp only [Option.some.injEq, Prod.mk.injEq] at H
      obtain ⟨rfl, rfl, rfl⟩ := H
      go_enter Tryd.func85, Tryd.ntmps85
      go_wp2_with (first | (go_at_call 80; (with_reducible refine (num_width.calls a1 true _ A3.out).mono ?_); rintro e w' ⟨rfl, ⟨nd, rfl⟩⟩; (try first | exact ⟨rfl, _, World.drewN_drewN _ _ _⟩ | exact ⟨rfl, _, Eq.trans (World.drewN_drewN _ _ _) (congrArg (World.drewN _) (Nat.add_assoc _ _ _))⟩)))
      repeat (go_quiet (first | (go_at_call 80; (with_reducible refine (num_width.calls a1 true _ A3.out).mono ?_); rintro e w' ⟨rfl, ⟨nd, rfl⟩⟩; (try first | exact ⟨rfl, _, World.drewN_drewN _ _ _⟩ | exact ⟨rfl, _, Eq.trans (World.drewN_drewN _ _ _) (congrArg (World.drewN _) (Nat.add_assoc _ _ _))⟩))); try go_wp2_with (first | (go_at_call 80; (with_reducible refine (num_width.calls a1 true _ A3.out).mono ?_); rintro e w' ⟨rfl, ⟨nd, rfl⟩⟩; (try first | exact ⟨rfl, _, World.drewN_drewN _ _ _⟩ | exact ⟨rfl, _, Eq.trans (World.drewN_drewN _ _ _) (congrArg (World.drewN _) (Nat.add_assoc _ _ _))⟩))))
      go_ret3
      exact ⟨by first | rfl | (simp; done) | (simp [*]; done), by repeat (first | exact Drawn0.refl _ | apply Drawn0.step)⟩
    · rw [if_neg c5] at H
      have c5b0 : decide ((a0.size : Int) < a1) = false := decide_eq_false c5
      clear c5
      have H' := Aside0.mk H
      clear H
      go_enter Tryd.func85, Tryd.ntmps85
      go_wp2_with (first | (go_at_call 80; (with_reducible refine (num_width.calls a1 true _ A3.out).mono ?_); rintro e w' ⟨rfl, ⟨nd, rfl⟩⟩; (try first | exact ⟨rfl, _, World.drewN_drewN _ _ _⟩ | exact ⟨rfl, _, Eq.trans (World.drewN_drewN _ _ _) (congrArg (World.drewN _) (Nat.add_assoc _ _ _))⟩)))
      repeat (go_quiet (first | (go_at_call 80; (with_reducible refine (num_width.calls a1 true _ A3.out).mono ?_); rintro e w' ⟨rfl, ⟨nd, rfl⟩⟩; (try first | exact ⟨rfl, _, World.drewN_drewN _ _ _⟩ | exact ⟨rfl, _, Eq.trans (World.drewN_drewN _ _ _) (congrArg (World.drewN _) (Nat.add_assoc _ _ _))⟩))); try go_wp2_with (first | (go_at_call 80; (with_reducible refine (num_width.calls a1 true _ A3.out).mono ?_); rintro e w' ⟨rfl, ⟨nd, rfl⟩⟩; (try first | exact ⟨rfl, _, World.drewN_drewN _ _ _⟩ | exact ⟨rfl, _, Eq.trans (World.drewN_drewN _ _ _) (congrArg (World.drewN _) (Nat.add_assoc _ _ _))⟩))))
      go_loopg [7, 19] k (fun kq v7 v19 w' => ∃ (x7_1 : Int) (x19_1 : Int), v7 = .int .u64 x7_1 ∧ v19 = .int .i64 x19_1 ∧ Aside0 (num_Take.l0 kq a0 a1 x7_1 a1 x19_1 = some (r1, r2, r3)) ∧ Aside0 (kq ≤ k) ∧ Drawn0 w w')
      case atStart => exact ⟨(0), (0), (by first | rfl | (simp; done) | (simp [*]; done)), (by first | rfl | (simp; done) | (simp [*]; done)), H', ⟨Nat.le_refl _⟩, by repeat (first | exact Drawn0.refl _ | apply Drawn0.step)⟩
      case round =>
        clear H'
        try clear p2
        try clear c4
        try clear c5
        try clear c5b0
        obtain ⟨x7_1, x19_1, rfl, rfl, HA, HK1, ⟨m1, rfl⟩⟩ := hrel
        cases gk with
        | zero => exact absurd HA.out (by simp [num_Take.l0])
        | succ k1 =>
          have H := HA.out
          clear HA
          simp only [num_Take.l0] at H
          by_cases c6 : x19_1 < a1
          · rw [if_pos c6] at H
            have c6b0 : decide (x19_1 < a1) = true := decide_eq_true c6
            clear c6
            by_cases c7 : 0 ≤ x19_1
            · rw [if_pos c7] at H
              have c7b0 : decide (0 ≤ x19_1) = true := decide_eq_true c7
              clear c7
              by_cases c8 : x19_1 < (a0.size : Int)
              · rw [if_pos c8] at H
                have c8b0 : decide (x19_1 < (a0.size : Int)) = true := decide_eq_true c8
                clear c8
                have H' := Aside0.mk H
                clear H
                have p9 : 0 ≤ (x19_1 : Int) := of_decide_eq_true (by first | (with_reducible assumption) | assumption)
                have q9 : x19_1 < (a0.size : Int) := of_decide_eq_true (by first | (with_reducible assumption) | assumption)
                have hx9 := bt_at a0 x19_1
                replace p9 := eq_true p9
                replace q9 := eq_true q9
                go_wp2
                repeat (go_quiet (fail); try go_wp2)
                go_roundg k1
                case measure => have := HK1.out; omega
                case rel => exact ⟨(Go.bits .or .u64 (IntKind.u64.wrap (x7_1 * 256)) (IntKind.u64.wrap (bt a0 x19_1))), (wrap64 (x19_1 + 1)), (by first | rfl | (simp; done) | (simp [*]; done)), (by first | rfl | (simp; done) | (simp [*]; done)), H', ⟨by have := HK1.out; omega⟩, by repeat (first | exact Drawn0.refl _ | apply Drawn0.step)⟩
              · rw [if_neg c8] at H
                exact absurd H (by simp)
            · rw [if_neg c7] at H
              exact absurd H (by simp)
          · rw [if_neg c6] at H
            have c6b0 : decide (x19_1 < a1) = false := decide_eq_false c6
            clear c6
            by_cases c10 : 0 ≤ a1
            · rw [if_pos c10] at H
              have c10b0 := eq_true c10
              have c10b1 : decide (0 ≤ a1) = true := decide_eq_true c10
              clear c10
              by_cases c11 : a1 ≤ (a0.size : Int)
              · rw [if_pos c11] at H
                have c11b0 := eq_true c11
                have c11b1 : decide (a1 ≤ (a0.size : Int)) = true := decide_eq_true c11
                clear c11
                simp only [Option.some.injEq, Prod.mk.injEq] at H
                obtain ⟨rfl, rfl, rfl⟩ := H
                go_wp2
                repeat (go_quiet (fail); try go_wp2)
                go_ret3
                exact ⟨by first | rfl | (simp; done) | (simp [*]; done), by repeat (first | exact Drawn0.refl _ | apply Drawn0.step)⟩
              · rw [if_neg c11] at H
                exact absurd H (by simp)
            · rw [if_neg c10] at H
              exact absurd H (by simp)
  · replace c4 := Bool.eq_false_iff.mpr c4
    subst c4
    have H1 : (some (0, (⟨#[]⟩ : ByteArray), 1)) = some (r1, r2, r3) := by rw [if_neg (show ¬ (false = true) by decide)] at H; exact H
    clear H
    have H := H1
    clear H1
    simp only [Option.some.injEq, Prod.mk.injEq] at H
    obtain ⟨rfl, rfl, rfl⟩ := H
    go_enter Tryd.func85, Tryd.ntmps85
    go_wp2_with (first | (go_at_call 80; (with_reducible refine (num_width.calls a1 false _ A3.out).mono ?_); rintro e w' ⟨rfl, ⟨nd, rfl⟩⟩; (try first | exact ⟨rfl, _, World.drewN_drewN _ _ _⟩ | exact ⟨rfl, _, Eq.trans (World.drewN_drewN _ _ _) (congrArg (World.drewN _) (Nat.add_assoc _ _ _))⟩)))
    repeat (go_quiet (first | (go_at_call 80; (with_reducible refine (num_width.calls a1 false _ A3.out).mono ?_); rintro e w' ⟨rfl, ⟨nd, rfl⟩⟩; (try first | exact ⟨rfl, _, World.drewN_drewN _ _ _⟩ | exact ⟨rfl, _, Eq.trans (World.drewN_drewN _ _ _) (congrArg (World.drewN _) (Nat.add_assoc _ _ _))⟩))); try go_wp2_with (first | (go_at_call 80; (with_reducible refine (num_width.calls a1 false _ A3.out).mono ?_); rintro e w' ⟨rfl, ⟨nd, rfl⟩⟩; (try first | exact ⟨rfl, _, World.drewN_drewN _ _ _⟩ | exact ⟨rfl, _, Eq.trans (World.drewN_drewN _ _ _) (congrArg (World.drewN _) (Nat.add_assoc _ _ _))⟩))))
    go_ret3
    exact ⟨by first | rfl | (simp; done) | (simp [*]; done), by repeat (first | exact Drawn0.refl _ | apply Drawn0.step)⟩

end Go.Proofs.YtdogcnadopepmaaDoor.H
end

/- Laid by a program of this session's (hyb.py) over the kit's print: functions and their contracts, some callees' contracts being typed by hand. -/
section
namespace Go.Proofs.YtdogcnadopepmaaDoor.H
open Go.RowKit Go.Proofs.YtdogcnadopepmaaDoor.M Go.Proofs.YtdogcnadopepmaaDoorW.PrintWords Go.Proofs.YtdogcnadopepmaaDoorW.PrintLast Go.Proofs.YtdogcnadopepmaaDoorW.PrintMore
attribute [local go_sem] max2_int min2_int max_two min_two max_three min_three max_four min_four   -- for this text's walks alone
set_option linter.unusedVariables false
set_option linter.unusedSimpArgs false

/-! ### text_kind_take: function 143 -/
def text_kind_take.f (k : Nat) (a0 : Int) (a1 : ByteArray) : Option (ByteArray × ByteArray × Int) := (num_Take.f k a1 a0).bind fun bt783 => (if bt783.2.2 = 0 then ((num_Skip.f bt783.2.1 bt783.1).bind fun bt786 => (some (bt786.1, bt786.2.1, bt786.2.2))) else (some ((⟨#[]⟩ : ByteArray), (⟨#[]⟩ : ByteArray), bt783.2.2)))
theorem text_kind_take.mono : ∀ a0 a1 k, LeO (text_kind_take.f k a0 a1) (text_kind_take.f (k + 1) a0 a1) := by
  intro a0 a1 k
  unfold text_kind_take.f
  repeat' first
      | (with_reducible exact num_Take.mono _ _ _)
      | (with_reducible exact LeO.refl _)
      | (with_reducible exact LeO.none _)
      | (with_reducible refine LeO.ite ?_ ?_)
      | (with_reducible refine LeO.bind ?_ (fun _ => ?_))
      | exact num_Take.mono _ _ _
      | exact LeO.none _
      | refine LeO.ite ?_ ?_
      | refine LeO.bind ?_ (fun _ => ?_)
set_option maxHeartbeats 8000000 in
set_option maxRecDepth 100000 in
theorem text_kind_take.calls (k : Nat) (a0 : Int) (a1 : ByteArray) (r1 : ByteArray) (r2 : ByteArray) (r3 : Int) (w : World) (h : text_kind_take.f k a0 a1 = some (r1, r2, r3)) (hWd : Wd w := by first | (with_reducible assumption) | exact hWd.drewN _ | exact Wd.up hWd (by repeat (first | (with_reducible first | exact HB.out | apply below_alloc | apply pw_below_drewN | apply below_drew1) | exact HB.out))) :
    Calls Tryd.prog 143 #[.int .i64 a0, .string a1] w fun e w' => e = .returned (.tuple #[.string r1, .string r2, .int .i64 r3]) ∧ Drawn0 w w' := by
  have H : ((num_Take.f k a1 a0).bind fun bt783 => (if bt783.2.2 = 0 then ((num_Skip.f bt783.2.1 bt783.1).bind fun bt786 => (some (bt786.1, bt786.2.1, bt786.2.2))) else (some ((⟨#[]⟩ : ByteArray), (⟨#[]⟩ : ByteArray), bt783.2.2)))) = some (r1, r2, r3) := h
  clear h
  replace H := Option.bind_eq_some_iff.mp H
  obtain ⟨⟨t783, t784, t785⟩, A30, H⟩ := H
  replace H : (if t785 = 0 then ((num_Skip.f t784 t783).bind fun bt786 => (some (bt786.1, bt786.2.1, bt786.2.2))) else (some ((⟨#[]⟩ : ByteArray), (⟨#[]⟩ : ByteArray), t785))) = some (r1, r2, r3) := H
  have A3 := Aside0.mk A30
  clear A30
  by_cases c4 : t785 = 0
  · rw [if_pos c4] at H
    have c4b0 : (t785 == 0) = true := beq_iff_eq.mpr c4
    have c4b1 : (t785 != 0) = false := bne_eq_false_iff_eq.mpr c4
    clear c4
    replace H := Option.bind_eq_some_iff.mp H
    obtain ⟨⟨t786, t787, t788⟩, A50, H⟩ := H
    replace H : (some (t786, t787, t788)) = some (r1, r2, r3) := H
    have A5 := Aside0.mk A50
    clear A50
    simp only [Option.some.injEq, Prod.mk.injEq] at H
    obtain ⟨rfl, rfl, rfl⟩ := H
    go_enter Tryd.func143, Tryd.ntmps143
    go_wp2_with (first | ((with_reducible refine gate_callee (f := 85) rfl ?_); refine goesL_ (some 13) rfl rfl Tryd.func85 (by kernel_rfl) rfl #[.string a1, .int .i64 a0] rfl (by (try simp only [List.map_toArray, List.map_cons, List.map_nil]); first | done | rfl | (simp only [List.length_drop, List.length_take]; rfl)) ?_; (with_reducible refine (num_Take.calls k a1 a0 t783 t784 t785 _ A3.out).mono ?_); rintro e w' ⟨rfl, ⟨nd, rfl⟩⟩; refine ⟨_, rfl, ?_⟩) | ((with_reducible refine gate_callee (f := 160) rfl ?_); refine goesL_ (some 22) rfl rfl Tryd.func160 (by kernel_rfl) rfl #[.string t784, .int .u64 t783] rfl (by (try simp only [List.map_toArray, List.map_cons, List.map_nil]); first | done | rfl | (simp only [List.length_drop, List.length_take]; rfl)) ?_; (with_reducible refine (num_Skip.calls t784 t783 t786 t787 t788 _ A5.out).mono ?_); rintro e w' ⟨rfl, ⟨nd, rfl⟩⟩; refine ⟨_, rfl, ?_⟩))
    go_ret3
    exact ⟨by first | rfl | (simp; done) | (simp [*]; done), by repeat (first | exact Drawn0.refl _ | apply Drawn0.step)⟩
  · rw [if_neg c4] at H
    have c4b0 : (t785 == 0) = false := beq_eq_false_iff_ne.mpr c4
    have c4b1 : (t785 != 0) = true := bne_iff_ne.mpr c4
    simp only [Option.some.injEq, Prod.mk.injEq] at H
    obtain ⟨rfl, rfl, rfl⟩ := H
    go_enter Tryd.func143, Tryd.ntmps143
    go_wp2_with (first | ((with_reducible refine gate_callee (f := 85) rfl ?_); refine goesL_ (some 13) rfl rfl Tryd.func85 (by kernel_rfl) rfl #[.string a1, .int .i64 a0] rfl (by (try simp only [List.map_toArray, List.map_cons, List.map_nil]); first | done | rfl | (simp only [List.length_drop, List.length_take]; rfl)) ?_; (with_reducible refine (num_Take.calls k a1 a0 t783 t784 t785 _ A3.out).mono ?_); rintro e w' ⟨rfl, ⟨nd, rfl⟩⟩; refine ⟨_, rfl, ?_⟩))
    go_ret3
    exact ⟨by first | rfl | (simp; done) | (simp [*]; done), by repeat (first | exact Drawn0.refl _ | apply Drawn0.step)⟩

end Go.Proofs.YtdogcnadopepmaaDoor.H
end

/- Laid by a program of this session's (hyb.py) over the kit's print: functions and their contracts, some callees' contracts being typed by hand. -/
section
namespace Go.Proofs.YtdogcnadopepmaaDoor.H
open Go.RowKit Go.Proofs.YtdogcnadopepmaaDoor.M Go.Proofs.YtdogcnadopepmaaDoorW.PrintWords Go.Proofs.YtdogcnadopepmaaDoorW.PrintLast Go.Proofs.YtdogcnadopepmaaDoorW.PrintMore
attribute [local go_sem] max2_int min2_int max_two min_two max_three min_three max_four min_four   -- for this text's walks alone
set_option linter.unusedVariables false
set_option linter.unusedSimpArgs false

/-! ### num_Put: function 40 -/
mutual
def num_Put.j0 : Nat → Int → Int → Option (ByteArray × Int)
  | 0, _, _ => none
  | k + 1, x0, x1 => if 0 ≤ x0 then (if (x0 : Int).toNat ≤ 281474976710656 then (num_Put.l0 k x0 x1 (List.replicate (x0 : Int).toNat 0) x0 0) else (none)) else (none)
def num_Put.l0 : Nat → Int → Int → List Int → Int → Int → Option (ByteArray × Int)
  | 0, _, _, _, _, _ => none
  | k + 1, x0, x1, x7, x26, x27 => if x27 < x26 then (if 0 ≤ (wrap64 (8 * x27)) then (if 0 ≤ (wrap64 ((wrap64 (x0 - 1)) - x27)) then (if (wrap64 ((wrap64 (x0 - 1)) - x27)) < (x7.length : Int) then (num_Put.l0 k x0 x1 (x7.set ((wrap64 ((wrap64 (x0 - 1)) - x27)) : Int).toNat ((shr .u64 x1 (wrap64 (8 * x27))) % 256)) x26 (wrap64 (x27 + 1))) else (none)) else (none)) else (none)) else (some (strOfNums x7, 0))
end
def num_Put.f (k : Nat) (a0 : Int) (a1 : Int) : Option (ByteArray × Int) := (num_width.f a0).bind fun t103 => (if t103 = true then (if a0 < 8 then (if 0 ≤ (wrap64 (8 * a0)) then (if (shr .u64 a1 (wrap64 (8 * a0))) = 0 then (num_Put.j0 k a0 a1) else (some ((⟨#[]⟩ : ByteArray), 4))) else (none)) else (num_Put.j0 k a0 a1)) else (some ((⟨#[]⟩ : ByteArray), 1)))
theorem num_Put.mono_l : ∀ k, (∀ y0 y1, LeO (num_Put.j0 k y0 y1) (num_Put.j0 (k + 1) y0 y1)) ∧ (∀ y0 y1 y2 y3 y4, LeO (num_Put.l0 k y0 y1 y2 y3 y4) (num_Put.l0 (k + 1) y0 y1 y2 y3 y4))
  | 0 => ⟨fun _ _ r h => by simp [num_Put.j0] at h, fun _ _ _ _ _ r h => by simp [num_Put.l0] at h⟩
  | k + 1 => by
    obtain ⟨ih0, ih1⟩ := num_Put.mono_l k
    refine ⟨?_, ?_⟩
    · intro y0 y1
      unfold num_Put.j0
      repeat' first
      | (with_reducible exact ih0 _ _)
      | (with_reducible exact ih1 _ _ _ _ _)
      | (with_reducible exact LeO.refl _)
      | (with_reducible exact LeO.none _)
      | (with_reducible refine LeO.ite ?_ ?_)
      | (with_reducible refine LeO.bind ?_ (fun _ => ?_))
      | exact ih0 _ _
      | exact ih1 _ _ _ _ _
      | exact LeO.none _
      | refine LeO.ite ?_ ?_
      | refine LeO.bind ?_ (fun _ => ?_)
    · intro y0 y1 y2 y3 y4
      unfold num_Put.l0
      repeat' first
      | (with_reducible exact ih0 _ _)
      | (with_reducible exact ih1 _ _ _ _ _)
      | (with_reducible exact LeO.refl _)
      | (with_reducible exact LeO.none _)
      | (with_reducible refine LeO.ite ?_ ?_)
      | (with_reducible refine LeO.bind ?_ (fun _ => ?_))
      | exact ih0 _ _
      | exact ih1 _ _ _ _ _
      | exact LeO.none _
      | refine LeO.ite ?_ ?_
      | refine LeO.bind ?_ (fun _ => ?_)
theorem num_Put.mono : ∀ a0 a1 k, LeO (num_Put.f k a0 a1) (num_Put.f (k + 1) a0 a1) := by
  intro a0 a1 k
  obtain ⟨ih0, ih1⟩ := num_Put.mono_l k
  unfold num_Put.f
  repeat' first
      | (with_reducible exact ih0 _ _)
      | (with_reducible exact ih1 _ _ _ _ _)
      | (with_reducible exact LeO.refl _)
      | (with_reducible exact LeO.none _)
      | (with_reducible refine LeO.ite ?_ ?_)
      | (with_reducible refine LeO.bind ?_ (fun _ => ?_))
      | exact ih0 _ _
      | exact ih1 _ _ _ _ _
      | exact LeO.none _
      | refine LeO.ite ?_ ?_
      | refine LeO.bind ?_ (fun _ => ?_)
set_option maxHeartbeats 8000000 in
set_option maxRecDepth 100000 in
theorem num_Put.calls (k : Nat) (a0 : Int) (a1 : Int) (r1 : ByteArray) (r2 : Int) (w : World) (h : num_Put.f k a0 a1 = some (r1, r2)) (hWd : Wd w := by first | (with_reducible assumption) | exact hWd.drewN _ | exact Wd.up hWd (by repeat (first | (with_reducible first | exact HB.out | apply below_alloc | apply pw_below_drewN | apply below_drew1) | exact HB.out))) :
    Calls Tryd.prog 40 #[.int .i64 a0, .int .u64 a1] w fun e w' => e = .returned (.tuple #[.string r1, .int .i64 r2]) ∧ Below w.heap.size w w' := by
  have HB := Aside0.mk (Below.refl w.heap.size w)
  have H : ((num_width.f a0).bind fun t103 => (if t103 = true then (if a0 < 8 then (if 0 ≤ (wrap64 (8 * a0)) then (if (shr .u64 a1 (wrap64 (8 * a0))) = 0 then (num_Put.j0 k a0 a1) else (some ((⟨#[]⟩ : ByteArray), 4))) else (none)) else (num_Put.j0 k a0 a1)) else (some ((⟨#[]⟩ : ByteArray), 1)))) = some (r1, r2) := h
  clear h
  have HC3 := Aside0.mk H
  clear H
  go_enter Tryd.func40, Tryd.ntmps40
  go_upto_block 0 with (fail)
  go_cut [] (fun wc => ∃ (kq : Nat), Aside0 (num_Put.j0 kq a0 a1 = some (r1, r2)) ∧ Aside0 (kq ≤ k) ∧ Aside0 (Below w.heap.size w wc))
  case first =>
    have H := HC3.out
    clear HC3
    replace H := Option.bind_eq_some_iff.mp H
    obtain ⟨t103, A40, H⟩ := H
    replace H : (if t103 = true then (if a0 < 8 then (if 0 ≤ (wrap64 (8 * a0)) then (if (shr .u64 a1 (wrap64 (8 * a0))) = 0 then (num_Put.j0 k a0 a1) else (some ((⟨#[]⟩ : ByteArray), 4))) else (none)) else (num_Put.j0 k a0 a1)) else (some ((⟨#[]⟩ : ByteArray), 1))) = some (r1, r2) := H
    have A4 := Aside0.mk A40
    clear A40
    by_cases c5 : t103 = true
    · subst c5
      have H1 : (if a0 < 8 then (if 0 ≤ (wrap64 (8 * a0)) then (if (shr .u64 a1 (wrap64 (8 * a0))) = 0 then (num_Put.j0 k a0 a1) else (some ((⟨#[]⟩ : ByteArray), 4))) else (none)) else (num_Put.j0 k a0 a1)) = some (r1, r2) := by rw [if_pos rfl] at H; exact H
      clear H
      have H := H1
      clear H1
      by_cases c6 : a0 < 8
      · rw [if_pos c6] at H
        have c6b0 : decide (a0 < 8) = true := decide_eq_true c6
        clear c6
        (first | rw [c6b0] | (simp only [i64_w, i32_w]; rw [c6b0]) | skip)
        obtain ⟨ji7, hji7⟩ : ∃ j_ : Int, (wrap64 (8 * a0)) = j_ := ⟨_, rfl⟩
        replace H : (if 0 ≤ (ji7) then (if (shr .u64 a1 (ji7)) = 0 then (num_Put.j0 k a0 a1) else (some ((⟨#[]⟩ : ByteArray), 4))) else (none)) = some (r1, r2) := by first | (rw [hji7] at H; exact H) | (simp only [hji7] at H ⊢; exact H)
        (try rw [hji7] at A4)
        have hji7w : (IntKind.i64.wrap (8 * a0)) = ji7 := (i64_w _).trans hji7
        by_cases c8 : 0 ≤ (ji7)
        · rw [if_pos c8] at H
          have c8b0 := eq_true c8
          have c8b1 : decide (0 ≤ (ji7)) = true := decide_eq_true c8
          clear c8
          obtain ⟨ji9, hji9⟩ : ∃ j_ : Int, (shr .u64 a1 (ji7)) = j_ := ⟨_, rfl⟩
          replace H : (if (ji9) = 0 then (num_Put.j0 k a0 a1) else (some ((⟨#[]⟩ : ByteArray), 4))) = some (r1, r2) := by first | (rw [hji9] at H; exact H) | (simp only [hji9] at H ⊢; exact H)
          (try rw [hji9] at A4)
          have hji9_ : (a1 / 2 ^ min (ji7).toNat 64) = ji9 := hji9
          have hji9z : (ji7) ≤ 64 → (a1 / 2 ^ (ji7).toNat) = ji9 := shr_small hji9
          by_cases c10 : (ji9) = 0
          · rw [if_pos c10] at H
            have c10b0 : ((ji9) == 0) = true := beq_iff_eq.mpr c10
            have c10b1 : ((ji9) != 0) = false := bne_eq_false_iff_eq.mpr c10
            clear c10
            have H' := Aside0.mk H
            clear H
            go_wp2_with (first | ((with_reducible refine gate_callee (f := 80) rfl ?_); refine goesL_ (some 11) rfl rfl Tryd.func80 (by kernel_rfl) rfl #[.int .i64 a0] rfl (by (try simp only [List.map_toArray, List.map_cons, List.map_nil]); first | done | rfl | (simp only [List.length_drop, List.length_take]; rfl)) ?_; (with_reducible refine (num_width.calls a0 true _ A4.out).mono ?_); rintro e w' ⟨rfl, ⟨nd, rfl⟩⟩; refine ⟨_, rfl, ?_⟩))
            go_meet
            case rel => exact ⟨_, H', ⟨by first | omega | exact Nat.le_refl _⟩, ⟨by repeat (first | (with_reducible first | exact HB.out | apply below_alloc | apply pw_below_drewN | apply below_drew1) | exact HB.out)⟩⟩
          · rw [if_neg c10] at H
            have c10b0 : ((ji9) == 0) = false := beq_eq_false_iff_ne.mpr c10
            have c10b1 : ((ji9) != 0) = true := bne_iff_ne.mpr c10
            simp only [Option.some.injEq, Prod.mk.injEq] at H
            obtain ⟨rfl, rfl⟩ := H
            go_wp2_with (first | ((with_reducible refine gate_callee (f := 80) rfl ?_); refine goesL_ (some 11) rfl rfl Tryd.func80 (by kernel_rfl) rfl #[.int .i64 a0] rfl (by (try simp only [List.map_toArray, List.map_cons, List.map_nil]); first | done | rfl | (simp only [List.length_drop, List.length_take]; rfl)) ?_; (with_reducible refine (num_width.calls a0 true _ A4.out).mono ?_); rintro e w' ⟨rfl, ⟨nd, rfl⟩⟩; refine ⟨_, rfl, ?_⟩))
            go_ret2
            exact ⟨by first | rfl | (simp [errW_none, errW_some] <;> rfl) | (simp only [← hji7, ← hji9]; first | rfl | (simp [errW_none, errW_some] <;> rfl)) | (simp [*, errW_none, errW_some] <;> rfl), by repeat (first | (with_reducible first | exact HB.out | apply below_alloc | apply pw_below_drewN | apply below_drew1) | exact HB.out)⟩
        · rw [if_neg c8] at H
          exact absurd H (by simp)
      · rw [if_neg c6] at H
        have c6b0 : decide (a0 < 8) = false := decide_eq_false c6
        clear c6
        (first | rw [c6b0] | (simp only [i64_w, i32_w]; rw [c6b0]) | skip)
        have H' := Aside0.mk H
        clear H
        go_wp2_with (first | ((with_reducible refine gate_callee (f := 80) rfl ?_); refine goesL_ (some 11) rfl rfl Tryd.func80 (by kernel_rfl) rfl #[.int .i64 a0] rfl (by (try simp only [List.map_toArray, List.map_cons, List.map_nil]); first | done | rfl | (simp only [List.length_drop, List.length_take]; rfl)) ?_; (with_reducible refine (num_width.calls a0 true _ A4.out).mono ?_); rintro e w' ⟨rfl, ⟨nd, rfl⟩⟩; refine ⟨_, rfl, ?_⟩))
        go_meet
        case rel => exact ⟨_, H', ⟨by first | omega | exact Nat.le_refl _⟩, ⟨by repeat (first | (with_reducible first | exact HB.out | apply below_alloc | apply pw_below_drewN | apply below_drew1) | exact HB.out)⟩⟩
    · replace c5 := Bool.eq_false_iff.mpr c5
      subst c5
      have H1 : (some ((⟨#[]⟩ : ByteArray), 1)) = some (r1, r2) := by rw [if_neg (show ¬ (false = true) by decide)] at H; exact H
      clear H
      have H := H1
      clear H1
      simp only [Option.some.injEq, Prod.mk.injEq] at H
      obtain ⟨rfl, rfl⟩ := H
      go_wp2_with (first | ((with_reducible refine gate_callee (f := 80) rfl ?_); refine goesL_ (some 11) rfl rfl Tryd.func80 (by kernel_rfl) rfl #[.int .i64 a0] rfl (by (try simp only [List.map_toArray, List.map_cons, List.map_nil]); first | done | rfl | (simp only [List.length_drop, List.length_take]; rfl)) ?_; (with_reducible refine (num_width.calls a0 false _ A4.out).mono ?_); rintro e w' ⟨rfl, ⟨nd, rfl⟩⟩; refine ⟨_, rfl, ?_⟩))
      go_ret2
      exact ⟨by first | rfl | (simp [errW_none, errW_some] <;> rfl) | (simp [*, errW_none, errW_some] <;> rfl), by repeat (first | (with_reducible first | exact HB.out | apply below_alloc | apply pw_below_drewN | apply below_drew1) | exact HB.out)⟩
  case rest =>
    clear HC3
    try clear c1
    try clear p2
    try clear c4
    try clear c5
    try clear c6
    try clear c6b0
    try clear p6
    try clear c8
    try clear c8b0
    try clear c8b1
    try clear c10
    try clear c10b0
    try clear c10b1
    obtain ⟨kq, HA, HJ2, HB⟩ := hcut
    cases kq with
    | zero => exact absurd HA.out (by simp [num_Put.j0])
    | succ kj2 =>
      have H := HA.out
      clear HA
      simp only [num_Put.j0] at H
      by_cases c11 : 0 ≤ a0
      · rw [if_pos c11] at H
        have c11b0 := eq_true c11
        have c11b1 : decide (0 ≤ a0) = true := decide_eq_true c11
        clear c11
        by_cases c12 : (a0 : Int).toNat ≤ 281474976710656
        · rw [if_pos c12] at H
          have c12b0 := eq_true c12
          have c12b1 : decide ((a0 : Int).toNat ≤ 281474976710656) = true := decide_eq_true c12
          clear c12
          obtain ⟨y104, hy104⟩ : ∃ y_ : List Int, y_ = (List.replicate (a0 : Int).toNat 0) := ⟨_, rfl⟩
          replace H : (num_Put.l0 kj2 a0 a1 y104 a0 0) = some (r1, r2) := by first | (rw [hy104]; with_reducible exact H) | (have H2_ := (Option.bind_some _ _).symm.trans H; rw [hy104]; with_reducible exact H2_) | (have H2_ := (Option.bind_some _ _).symm.trans H; with_reducible exact H2_) | with_reducible exact H | (rw [hy104]; exact H) | exact H
          have Ny104 := Aside0.mk hy104
          clear hy104
          have H' := Aside0.mk H
          clear H
          go_wp2_with (first | ((with_reducible refine gate_dst (N := 25) rfl ?_); refine Kd.R_make (Kd.int .u8) _ 5 rfl (N := 25) rfl 115 _ _ rfl a0 rfl rfl Tryd.underlying115 (.int .u8 0) 1 info5 rfl (by decide) (by omega) 0 (ok := fun _ => True) (okp := fun _ => True) rfl (fun _ hk => hk) trivial (of_decide_eq_true (by first | (with_reducible assumption) | assumption)) (Nat.le_trans (Nat.mul_le_mul_right _ (of_decide_eq_true (by first | (with_reducible assumption) | assumption) : a0.toNat ≤ 281474976710656)) (by omega)) (Below.refl _ _) (Nat.le_refl _) ?_; intro v105 w13 ho14 hb hg_ hnew_; clear hg_ hnew_; (first | rw [← Ny104.out] at ho14 | (simp only [Int.reduceToNat] at ho14; rw [← Ny104.out] at ho14)); have n0_ := Aside0.mk (Kd.R_lower ho14 (below_size (by repeat (first | (with_reducible first | exact HB.out | apply below_alloc | apply pw_below_drewN | apply below_drew1) | exact HB.out)))); have n1_ := Aside0.mk (below_step (by repeat (first | (with_reducible first | exact HB.out | apply below_alloc | apply pw_below_drewN | apply below_drew1) | exact HB.out)) hb); clear HB; have HO106 := n0_; have HB := n1_; clear n0_ n1_; clear hb ho14))
          go_loopg [27] kj2 (fun kq v27 w' => ∃ (x7_2 : List Int) (x27_2 : Int), v27 = .int .i64 x27_2 ∧ Aside0 (num_Put.l0 kq a0 a1 x7_2 a0 x27_2 = some (r1, r2)) ∧ Aside0 (kq ≤ kj2) ∧ Aside0 (Kd.R (Kd.int .u8) 5 w' w.heap.size (fun _ => True) v105 x7_2) ∧ Aside0 (Below w.heap.size w w'))
          case atStart => exact ⟨(y104), (0), (by first | rfl | (simp; done) | (simp [*]; done)), H', ⟨Nat.le_refl _⟩, ⟨by (with_reducible repeat (first | apply Kd.R_alloc | apply Kd.R_drewN | apply Kd.R_drew)); exact HO106.out⟩, ⟨by repeat (first | (with_reducible first | exact HB.out | apply below_alloc | apply pw_below_drewN | apply below_drew1) | exact HB.out)⟩⟩
          case round =>
            clear H'
            try clear c1
            try clear p2
            try clear c4
            try clear c5
            try clear c6
            try clear c6b0
            try clear p6
            try clear c8
            try clear c8b0
            try clear c8b1
            try clear c10
            try clear c10b0
            try clear c10b1
            try clear c11
            try clear c11b0
            try clear c11b1
            try clear c12
            try clear c12b0
            try clear c12b1
            try clear p2
            try clear p6
            obtain ⟨x7_2, x27_2, rfl, HA, HK2, HO_7, HB⟩ := hrel
            cases gk with
            | zero => exact absurd HA.out (by simp [num_Put.l0])
            | succ k2 =>
              have H := HA.out
              clear HA
              simp only [num_Put.l0] at H
              by_cases c15 : x27_2 < a0
              · rw [if_pos c15] at H
                have c15b0 : decide (x27_2 < a0) = true := decide_eq_true c15
                clear c15
                obtain ⟨ji16, hji16⟩ : ∃ j_ : Int, (wrap64 (8 * x27_2)) = j_ := ⟨_, rfl⟩
                replace H : (if 0 ≤ (ji16) then (if 0 ≤ (wrap64 ((wrap64 (a0 - 1)) - x27_2)) then (if (wrap64 ((wrap64 (a0 - 1)) - x27_2)) < (x7_2.length : Int) then (num_Put.l0 k2 a0 a1 (x7_2.set ((wrap64 ((wrap64 (a0 - 1)) - x27_2)) : Int).toNat ((shr .u64 a1 (ji16)) % 256)) a0 (wrap64 (x27_2 + 1))) else (none)) else (none)) else (none)) = some (r1, r2) := by first | (rw [hji16] at H; exact H) | (simp only [hji16] at H ⊢; exact H)
                have hji16w : (IntKind.i64.wrap (8 * x27_2)) = ji16 := (i64_w _).trans hji16
                by_cases c17 : 0 ≤ (ji16)
                · rw [if_pos c17] at H
                  have c17b0 := eq_true c17
                  have c17b1 : decide (0 ≤ (ji16)) = true := decide_eq_true c17
                  clear c17
                  obtain ⟨ji18, hji18⟩ : ∃ j_ : Int, (shr .u64 a1 (ji16)) = j_ := ⟨_, rfl⟩
                  replace H : (if 0 ≤ (wrap64 ((wrap64 (a0 - 1)) - x27_2)) then (if (wrap64 ((wrap64 (a0 - 1)) - x27_2)) < (x7_2.length : Int) then (num_Put.l0 k2 a0 a1 (x7_2.set ((wrap64 ((wrap64 (a0 - 1)) - x27_2)) : Int).toNat ((ji18) % 256)) a0 (wrap64 (x27_2 + 1))) else (none)) else (none)) = some (r1, r2) := by first | (rw [hji18] at H; exact H) | (simp only [hji18] at H ⊢; exact H)
                  have hji18_ : (a1 / 2 ^ min (ji16).toNat 64) = ji18 := hji18
                  have hji18z : (ji16) ≤ 64 → (a1 / 2 ^ (ji16).toNat) = ji18 := shr_small hji18
                  obtain ⟨ji19, hji19⟩ : ∃ j_ : Int, (wrap64 ((wrap64 (a0 - 1)) - x27_2)) = j_ := ⟨_, rfl⟩
                  replace H : (if 0 ≤ (ji19) then (if (ji19) < (x7_2.length : Int) then (num_Put.l0 k2 a0 a1 (x7_2.set ((ji19) : Int).toNat ((ji18) % 256)) a0 (wrap64 (x27_2 + 1))) else (none)) else (none)) = some (r1, r2) := by first | (rw [hji19] at H; exact H) | (simp only [hji19] at H ⊢; exact H)
                  have hji19w : (IntKind.i64.wrap ((wrap64 (a0 - 1)) - x27_2)) = ji19 := (i64_w _).trans hji19
                  by_cases c20 : 0 ≤ (ji19)
                  · rw [if_pos c20] at H
                    have c20b0 : decide (0 ≤ (ji19)) = true := decide_eq_true c20
                    clear c20
                    by_cases c21 : (ji19) < (x7_2.length : Int)
                    · rw [if_pos c21] at H
                      have c21b0 : decide ((ji19) < (x7_2.length : Int)) = true := decide_eq_true c21
                      clear c21
                      obtain ⟨y107, hy107⟩ : ∃ y_ : List Int, y_ = (x7_2.set ((ji19) : Int).toNat ((ji18) % 256)) := ⟨_, rfl⟩
                      replace H : (num_Put.l0 k2 a0 a1 y107 a0 (wrap64 (x27_2 + 1))) = some (r1, r2) := by first | (rw [hy107]; with_reducible exact H) | (have H2_ := (Option.bind_some _ _).symm.trans H; rw [hy107]; with_reducible exact H2_) | (have H2_ := (Option.bind_some _ _).symm.trans H; with_reducible exact H2_) | with_reducible exact H | (rw [hy107]; exact H) | exact H
                      have Ny107 := Aside0.mk hy107
                      clear hy107
                      have H' := Aside0.mk H
                      clear H
                      have p22 : 0 ≤ ((ji19) : Int) := of_decide_eq_true (by first | (with_reducible assumption) | assumption)
                      have q22 : ((ji19) : Int) < ((x7_2.length : Int) : Int) := of_decide_eq_true (by first | (with_reducible assumption) | assumption)
                      obtain ⟨go22, co22, eo22, gb22, gl22, cl22, HG22⟩ := Kd.R_form HO_7.out (by omega)
                      (first | cases eo22 | (injection eo22 with ea_ en_ ec_; (first | subst ea_ | (injection ea_ with ea_; subst ea_)); subst ec_; clear en_))
                      have GB22 := Aside0.mk gb22
                      have GG22 := Aside0.mk HG22
                      clear gb22 gl22 HG22
                      obtain ⟨hx22_0, hf22_0⟩ := Kd.R_celln 0 HO_7.out ((ji19) : Int) p22 q22
                      replace p22 := eq_true p22
                      replace q22 := eq_true q22
                      have HP23 := Kd.R_putg HO_7.out ((ji19) : Int) ((ji18) % 256)
                      go_wp2_with (first | ((with_reducible refine gate_store (t := 5) (p := 40) rfl ?_); refine store_event (t := 5) (p := 40) (v := ?vo_w24) (w1 := (wr.setCell ⟨go22, ((ji19) : Int).toNat, none⟩ (.int .u8 ((ji18) % 256)))) ?hg ?ho ?hn ?hr ?_; (case ho => rfl); (case hg => rfl); (case hn => rfl); (case hr => first | (go_simp; done) | (go_simp; rfl)); intro w24 hw; have hg : wr.grownBy w24 (some go22) := (by rw [hw]; exact HP23.2); have hp_ : Kd.R (Kd.int .u8) 5 w24 w.heap.size (fun _ => True) (.slice (some ⟨go22, 0, none⟩) x7_2.length co22) y107 := (by rw [hw, Ny107.out]; exact HP23.1); clear HP23; have n0_ := Aside0.mk (hp_); have n1_ := Aside0.mk ((by rw [hw]; exact below_set (HB.out) GB22.out : Below w.heap.size w w24)); clear HO_7; clear HB; have HO_7 := n0_; have HB := n1_; clear n0_ n1_; clear hg hw hp_))
                      go_roundg k2
                      case measure => have := HJ2.out; have := HK2.out; omega
                      case rel => exact ⟨(y107), (wrap64 (x27_2 + 1)), (by first | rfl | (simp; done) | (simp [*]; done)), H', ⟨by have := HJ2.out; have := HK2.out; omega⟩, ⟨by (with_reducible repeat (first | apply Kd.R_alloc | apply Kd.R_drewN | apply Kd.R_drew)); exact HO_7.out⟩, ⟨by repeat (first | (with_reducible first | exact HB.out | apply below_alloc | apply pw_below_drewN | apply below_drew1) | exact HB.out)⟩⟩
                    · rw [if_neg c21] at H
                      exact absurd H (by simp)
                  · rw [if_neg c20] at H
                    exact absurd H (by simp)
                · rw [if_neg c17] at H
                  exact absurd H (by simp)
              · rw [if_neg c15] at H
                have c15b0 : decide (x27_2 < a0) = false := decide_eq_false c15
                clear c15
                simp only [Option.some.injEq, Prod.mk.injEq] at H
                obtain ⟨rfl, rfl⟩ := H
                have hcv25 := own_string (P := Tryd.prog) Tryd.underlying115 Tryd.underlying5 Tryd.underlying9 (Kd.own_of_R HO_7.out)
                go_wp2
                go_ret2
                exact ⟨by first | rfl | (simp [errW_none, errW_some] <;> rfl) | (simp [*, errW_none, errW_some] <;> rfl), by repeat (first | (with_reducible first | exact HB.out | apply below_alloc | apply pw_below_drewN | apply below_drew1) | exact HB.out)⟩
        · rw [if_neg c12] at H
          exact absurd H (by simp)
      · rw [if_neg c11] at H
        exact absurd H (by simp)

end Go.Proofs.YtdogcnadopepmaaDoor.H
end

/- Laid by a program of this session's (hyb.py) over the kit's print: functions and their contracts, some callees' contracts being typed by hand. -/
section
namespace Go.Proofs.YtdogcnadopepmaaDoor.H
open Go.RowKit Go.Proofs.YtdogcnadopepmaaDoor.M Go.Proofs.YtdogcnadopepmaaDoorW.PrintWords Go.Proofs.YtdogcnadopepmaaDoorW.PrintLast Go.Proofs.YtdogcnadopepmaaDoorW.PrintMore
attribute [local go_sem] max2_int min2_int max_two min_two max_three min_three max_four min_four   -- for this text's walks alone
set_option linter.unusedVariables false
set_option linter.unusedSimpArgs false

/-! ### text_kind_lay: function 82 -/
def text_kind_lay.f (k : Nat) (a0 : Int) (a1 : ByteArray) : Option (ByteArray × Int) := (num_Put.f k a0 (IntKind.u64.wrap ((a1.size : Int)))).bind fun bt734 => (if bt734.2 = 0 then (if bt734.1.size + a1.size ≤ 9223372036854775807 then (some (bt734.1 ++ a1, 0)) else (none)) else (some ((⟨#[]⟩ : ByteArray), bt734.2)))
theorem text_kind_lay.mono : ∀ a0 a1 k, LeO (text_kind_lay.f k a0 a1) (text_kind_lay.f (k + 1) a0 a1) := by
  intro a0 a1 k
  unfold text_kind_lay.f
  repeat' first
      | (with_reducible exact num_Put.mono _ _ _)
      | (with_reducible exact LeO.refl _)
      | (with_reducible exact LeO.none _)
      | (with_reducible refine LeO.ite ?_ ?_)
      | (with_reducible refine LeO.bind ?_ (fun _ => ?_))
      | exact num_Put.mono _ _ _
      | exact LeO.none _
      | refine LeO.ite ?_ ?_
      | refine LeO.bind ?_ (fun _ => ?_)
set_option maxHeartbeats 8000000 in
set_option maxRecDepth 100000 in
theorem text_kind_lay.calls (k : Nat) (a0 : Int) (a1 : ByteArray) (r1 : ByteArray) (r2 : Int) (w : World) (h : text_kind_lay.f k a0 a1 = some (r1, r2)) (hWd : Wd w := by first | (with_reducible assumption) | exact hWd.drewN _ | exact Wd.up hWd (by repeat (first | (with_reducible first | exact HB.out | apply below_alloc | apply pw_below_drewN | apply below_drew1) | exact HB.out))) :
    Calls Tryd.prog 82 #[.int .i64 a0, .string a1] w fun e w' => e = .returned (.tuple #[.string r1, .int .i64 r2]) ∧ Below w.heap.size w w' := by
  have HB := Aside0.mk (Below.refl w.heap.size w)
  have H : ((num_Put.f k a0 (IntKind.u64.wrap ((a1.size : Int)))).bind fun bt734 => (if bt734.2 = 0 then (if bt734.1.size + a1.size ≤ 9223372036854775807 then (some (bt734.1 ++ a1, 0)) else (none)) else (some ((⟨#[]⟩ : ByteArray), bt734.2)))) = some (r1, r2) := h
  clear h
  replace H := Option.bind_eq_some_iff.mp H
  obtain ⟨⟨t734, t735⟩, A30, H⟩ := H
  replace H : (if t735 = 0 then (if t734.size + a1.size ≤ 9223372036854775807 then (some (t734 ++ a1, 0)) else (none)) else (some ((⟨#[]⟩ : ByteArray), t735))) = some (r1, r2) := H
  have A3 := Aside0.mk A30
  clear A30
  by_cases c4 : t735 = 0
  · rw [if_pos c4] at H
    have c4b0 : (t735 == 0) = true := beq_iff_eq.mpr c4
    have c4b1 : (t735 != 0) = false := bne_eq_false_iff_eq.mpr c4
    clear c4
    by_cases c5 : t734.size + a1.size ≤ 9223372036854775807
    · rw [if_pos c5] at H
      have c5b0 := eq_true c5
      have c5b1 : decide (t734.size + a1.size ≤ 9223372036854775807) = true := decide_eq_true c5
      try have c5b2 : (9223372036854775807 < t734.size + a1.size) = False := eq_false (Nat.not_lt.2 c5)
      clear c5
      simp only [Option.some.injEq, Prod.mk.injEq] at H
      obtain ⟨rfl, rfl⟩ := H
      go_enter Tryd.func82, Tryd.ntmps82
      go_wp2_with (first | ((with_reducible refine gate_callee (f := 40) rfl ?_); refine goesL_ (some 13) rfl rfl Tryd.func40 (by kernel_rfl) rfl #[.int .i64 a0, .int .u64 (IntKind.u64.wrap ((a1.size : Int)))] rfl (by (try simp only [List.map_toArray, List.map_cons, List.map_nil]); first | done | rfl | (simp only [List.length_drop, List.length_take]; rfl)) ?_; (with_reducible refine (num_Put.calls k a0 (IntKind.u64.wrap ((a1.size : Int))) t734 t735 _ A3.out).mono ?_); rintro e w6 ⟨rfl, hb⟩; refine ⟨_, rfl, ?_⟩; have n0_ := Aside0.mk (below_step (by repeat (first | (with_reducible first | exact HB.out | apply below_alloc | apply pw_below_drewN | apply below_drew1) | exact HB.out)) hb); clear HB; have HB := n0_; clear n0_; (try clear hb); (try clear hb2); (try clear hk); (try clear hi)))
      go_ret2
      exact ⟨by first | rfl | (simp [errW_none, errW_some] <;> rfl) | (simp [*, errW_none, errW_some] <;> rfl), by repeat (first | (with_reducible first | exact HB.out | apply below_alloc | apply pw_below_drewN | apply below_drew1) | exact HB.out)⟩
    · rw [if_neg c5] at H
      exact absurd H (by simp)
  · rw [if_neg c4] at H
    have c4b0 : (t735 == 0) = false := beq_eq_false_iff_ne.mpr c4
    have c4b1 : (t735 != 0) = true := bne_iff_ne.mpr c4
    simp only [Option.some.injEq, Prod.mk.injEq] at H
    obtain ⟨rfl, rfl⟩ := H
    go_enter Tryd.func82, Tryd.ntmps82
    go_wp2_with (first | ((with_reducible refine gate_callee (f := 40) rfl ?_); refine goesL_ (some 13) rfl rfl Tryd.func40 (by kernel_rfl) rfl #[.int .i64 a0, .int .u64 (IntKind.u64.wrap ((a1.size : Int)))] rfl (by (try simp only [List.map_toArray, List.map_cons, List.map_nil]); first | done | rfl | (simp only [List.length_drop, List.length_take]; rfl)) ?_; (with_reducible refine (num_Put.calls k a0 (IntKind.u64.wrap ((a1.size : Int))) t734 t735 _ A3.out).mono ?_); rintro e w7 ⟨rfl, hb⟩; refine ⟨_, rfl, ?_⟩; have n0_ := Aside0.mk (below_step (by repeat (first | (with_reducible first | exact HB.out | apply below_alloc | apply pw_below_drewN | apply below_drew1) | exact HB.out)) hb); clear HB; have HB := n0_; clear n0_; (try clear hb); (try clear hb2); (try clear hk); (try clear hi)))
    go_ret2
    exact ⟨by first | rfl | (simp [errW_none, errW_some] <;> rfl) | (simp [*, errW_none, errW_some] <;> rfl), by repeat (first | (with_reducible first | exact HB.out | apply below_alloc | apply pw_below_drewN | apply below_drew1) | exact HB.out)⟩

end Go.Proofs.YtdogcnadopepmaaDoor.H
end

/- text.Short, Long, TakeShort, TakeLong: each calls a method by its expression: their contracts out of kind.lay's and kind.take's. -/
section
namespace Go.Proofs.YtdogcnadopepmaaDoor.M
open Go.RowKit Go.Proofs.YtdogcnadopepmaaDoorW.PrintWords Go.Proofs.YtdogcnadopepmaaDoorW.PrintLast Go.Proofs.YtdogcnadopepmaaDoor.H

def text_Short.f (k : Nat) (a0 : ByteArray) : Option (ByteArray × Int) := text_kind_lay.f k 1 a0
theorem text_Short.mono : ∀ a0 k, LeO (text_Short.f k a0) (text_Short.f (k + 1) a0) := fun a0 k => text_kind_lay.mono 1 a0 k
def text_Long.f (k : Nat) (a0 : ByteArray) : Option (ByteArray × Int) := text_kind_lay.f k 4 a0
theorem text_Long.mono : ∀ a0 k, LeO (text_Long.f k a0) (text_Long.f (k + 1) a0) := fun a0 k => text_kind_lay.mono 4 a0 k
def text_TakeShort.f (k : Nat) (a0 : ByteArray) : Option (ByteArray × ByteArray × Int) := text_kind_take.f k 1 a0
theorem text_TakeShort.mono : ∀ a0 k, LeO (text_TakeShort.f k a0) (text_TakeShort.f (k + 1) a0) := fun a0 k => text_kind_take.mono 1 a0 k
def text_TakeLong.f (k : Nat) (a0 : ByteArray) : Option (ByteArray × ByteArray × Int) := text_kind_take.f k 4 a0
theorem text_TakeLong.mono : ∀ a0 k, LeO (text_TakeLong.f k a0) (text_TakeLong.f (k + 1) a0) := fun a0 k => text_kind_take.mono 4 a0 k

set_option maxHeartbeats 2000000 in
theorem text_Short.calls (k : Nat) (a0 : ByteArray) (r1 : ByteArray) (r2 : Int) (w : World) (h : text_Short.f k a0 = some (r1, r2)) (hWd : Wd w := by first | (with_reducible assumption) | exact hWd.drewN _ | exact Wd.up hWd (by repeat (first | (with_reducible first | exact HB.out | apply below_alloc | apply pw_below_drewN | apply below_drew1) | exact HB.out))) :
    Calls Tryd.prog 43 #[.string a0] w fun e w' => e = .returned (.tuple #[.string r1, .int .i64 r2]) ∧ Below w.heap.size w w' := by
  have C := text_kind_lay.calls k 1 a0 r1 r2 w h hWd
  have HC := Lib.hid C
  clear C h hWd
  go_enter Tryd.func43, Tryd.ntmps43
  go_wp2_with (go_at_call 82; refine HC.out.mono ?_; rintro e w' ⟨rfl, hb⟩; have HB := Lib.hid hb; clear hb)
  go_ret2
  exact ⟨rfl, HB.out⟩

set_option maxHeartbeats 2000000 in
theorem text_Long.calls (k : Nat) (a0 : ByteArray) (r1 : ByteArray) (r2 : Int) (w : World) (h : text_Long.f k a0 = some (r1, r2)) (hWd : Wd w := by first | (with_reducible assumption) | exact hWd.drewN _ | exact Wd.up hWd (by repeat (first | (with_reducible first | exact HB.out | apply below_alloc | apply pw_below_drewN | apply below_drew1) | exact HB.out))) :
    Calls Tryd.prog 44 #[.string a0] w fun e w' => e = .returned (.tuple #[.string r1, .int .i64 r2]) ∧ Below w.heap.size w w' := by
  have C := text_kind_lay.calls k 4 a0 r1 r2 w h hWd
  have HC := Lib.hid C
  clear C h hWd
  go_enter Tryd.func44, Tryd.ntmps44
  go_wp2_with (go_at_call 82; refine HC.out.mono ?_; rintro e w' ⟨rfl, hb⟩; have HB := Lib.hid hb; clear hb)
  go_ret2
  exact ⟨rfl, HB.out⟩

set_option maxHeartbeats 2000000 in
theorem text_TakeShort.calls (k : Nat) (a0 : ByteArray) (r1 r2 : ByteArray) (r3 : Int) (w : World) (h : text_TakeShort.f k a0 = some (r1, r2, r3)) (hWd : Wd w := by first | (with_reducible assumption) | exact hWd.drewN _ | exact Wd.up hWd (by repeat (first | (with_reducible first | exact HB.out | apply below_alloc | apply pw_below_drewN | apply below_drew1) | exact HB.out))) :
    Calls Tryd.prog 120 #[.string a0] w fun e w' => e = .returned (.tuple #[.string r1, .string r2, .int .i64 r3]) ∧ Drawn0 w w' := by
  have C := text_kind_take.calls k 1 a0 r1 r2 r3 w h hWd
  have HC := Lib.hid C
  clear C h hWd
  go_enter Tryd.func120, Tryd.ntmps120
  go_wp2_with (go_at_call 143; refine HC.out.mono ?_; rintro e w' ⟨rfl, hb⟩; have HB := Lib.hid hb; clear hb)
  go_ret3
  exact ⟨rfl, HB.out⟩

set_option maxHeartbeats 2000000 in
theorem text_TakeLong.calls (k : Nat) (a0 : ByteArray) (r1 r2 : ByteArray) (r3 : Int) (w : World) (h : text_TakeLong.f k a0 = some (r1, r2, r3)) (hWd : Wd w := by first | (with_reducible assumption) | exact hWd.drewN _ | exact Wd.up hWd (by repeat (first | (with_reducible first | exact HB.out | apply below_alloc | apply pw_below_drewN | apply below_drew1) | exact HB.out))) :
    Calls Tryd.prog 121 #[.string a0] w fun e w' => e = .returned (.tuple #[.string r1, .string r2, .int .i64 r3]) ∧ Drawn0 w w' := by
  have C := text_kind_take.calls k 4 a0 r1 r2 r3 w h hWd
  have HC := Lib.hid C
  clear C h hWd
  go_enter Tryd.func121, Tryd.ntmps121
  go_wp2_with (go_at_call 143; refine HC.out.mono ?_; rintro e w' ⟨rfl, hb⟩; have HB := Lib.hid hb; clear hb)
  go_ret3
  exact ⟨rfl, HB.out⟩
end Go.Proofs.YtdogcnadopepmaaDoor.M
end
