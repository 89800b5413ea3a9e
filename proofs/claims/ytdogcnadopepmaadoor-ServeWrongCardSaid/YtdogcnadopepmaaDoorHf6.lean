/- Laid by a program of this session's (hyb.py) over the kit's print: functions and their contracts, some callees' contracts being typed by hand. -/
import Derived.Test.YtdogcnadopepmaaDoorC12
import Derived.Test.YtdogcnadopepmaaDoorC13
import Derived.Test.YtdogcnadopepmaaDoorG2
import Derived.Test.YtdogcnadopepmaaDoorH0
import Derived.Test.YtdogcnadopepmaaDoorHe43
namespace Go.Proofs.YtdogcnadopepmaaDoor.H
open Go.RowKit Go.Proofs.YtdogcnadopepmaaDoor.M Go.Proofs.YtdogcnadopepmaaDoorW.PrintWords Go.Proofs.YtdogcnadopepmaaDoorW.PrintLast Go.Proofs.YtdogcnadopepmaaDoorW.PrintMore
attribute [local go_sem] max2_int min2_int max_two min_two max_three min_three max_four min_four   -- for this text's walks alone
set_option linter.unusedVariables false
set_option linter.unusedSimpArgs false

attribute [local go_sem high] eqA43
/-! ### interchangelaw10_ServeWrong: function 6 -/
def interchangelaw10_ServeWrong.j0 : Nat → Bool → List (S24) → Int → Bool → Int → Int → Int → Int → ByteArray → ByteArray → ByteArray → Int → Int → List (S56) → Int → Int → Int → Int → ByteArray → ByteArray → ByteArray → Option (Bool)
  | 0, _, _, _, _, _, _, _, _, _, _, _, _, _, _, _, _, _, _, _, _, _ => none
  | k + 1, x5, x7, x8, x28, x355000, x355001, x355002, x355003, x355004, x355005, x355006, x356000, x356001, x356002, x369000, x369001, x369002, x369003, x369004, x369005, x369006 => if x28 = true then (some x5) else (if x356000 = 10 then (if x356001 = 50 then (if x5 = true then (if x8 = 0 then (if x369000 = 6 then (if (x7.length : Int) = 1 then (if 0 < (x7.length : Int) then (some (((rd_T24 x7 0).f1) == 51)) else (none)) else (some false)) else (some false)) else (some false)) else (some false)) else (if x355000 = 4 then (if x5 = true then (if x8 = 8 then (some (x369000 == x355000 && ((x369001 == x355001 && (x369002 == x355002 && (x369003 == x355003))) && (x369004.toList == x355004.toList && (x369005.toList == x355005.toList && (x369006.toList == x355006.toList)))))) else (some false)) else (some false)) else (if x5 = true then (if x8 = 0 then (if x369000 = (wrap64 (x355000 + 1)) then (some true) else (some false)) else (some (x369000 == x355000 && ((x369001 == x355001 && (x369002 == x355002 && (x369003 == x355003))) && (x369004.toList == x355004.toList && (x369005.toList == x355005.toList && (x369006.toList == x355006.toList))))))) else (some false)))) else (if x5 = true then (if x8 = 8 then (if (x369000 == x355000 && ((x369001 == x355001 && (x369002 == x355002 && (x369003 == x355003))) && (x369004.toList == x355004.toList && (x369005.toList == x355005.toList && (x369006.toList == x355006.toList))))) = true then (some ((x7.length : Int) == 0)) else (some false)) else (some false)) else (some false)))
def interchangelaw10_ServeWrong.f (k : Nat) (a0_0 : Int) (a0_1 : Int) (a0_2 : Int) (a0_3 : Int) (a0_4 : ByteArray) (a0_5 : ByteArray) (a0_6 : ByteArray) (a1_0 : Int) (a1_1 : Int) (l1_2 : List (S56)) : Option (Bool) := (interchangelaw10_shown.f).bind fun t356 => ((serve_Take.f k a0_0 a0_1 a0_2 a0_3 a0_4 a0_5 a0_6 a1_0 a1_1 l1_2).bind fun bt357 => (if a0_0 < 1 then (interchangelaw10_ServeWrong.j0 k t356 bt357.2.2.2.2.2.2.2.1 bt357.2.2.2.2.2.2.2.2 true a0_0 a0_1 a0_2 a0_3 a0_4 a0_5 a0_6 a1_0 a1_1 l1_2 bt357.1 bt357.2.1 bt357.2.2.1 bt357.2.2.2.1 bt357.2.2.2.2.1 bt357.2.2.2.2.2.1 bt357.2.2.2.2.2.2.1) else (if a0_0 > 4 then (interchangelaw10_ServeWrong.j0 k t356 bt357.2.2.2.2.2.2.2.1 bt357.2.2.2.2.2.2.2.2 true a0_0 a0_1 a0_2 a0_3 a0_4 a0_5 a0_6 a1_0 a1_1 l1_2 bt357.1 bt357.2.1 bt357.2.2.1 bt357.2.2.2.1 bt357.2.2.2.2.1 bt357.2.2.2.2.2.1 bt357.2.2.2.2.2.2.1) else (interchangelaw10_ServeWrong.j0 k t356 bt357.2.2.2.2.2.2.2.1 bt357.2.2.2.2.2.2.2.2 (bt357.2.2.2.2.2.2.2.2 == 7) a0_0 a0_1 a0_2 a0_3 a0_4 a0_5 a0_6 a1_0 a1_1 l1_2 bt357.1 bt357.2.1 bt357.2.2.1 bt357.2.2.2.1 bt357.2.2.2.2.1 bt357.2.2.2.2.2.1 bt357.2.2.2.2.2.2.1))))
theorem interchangelaw10_ServeWrong.mono_l : ∀ k, (∀ y0 y1 y2 y3 y4 y5 y6 y7 y8 y9 y10 y11 y12 y13 y14 y15 y16 y17 y18 y19 y20, LeO (interchangelaw10_ServeWrong.j0 k y0 y1 y2 y3 y4 y5 y6 y7 y8 y9 y10 y11 y12 y13 y14 y15 y16 y17 y18 y19 y20) (interchangelaw10_ServeWrong.j0 (k + 1) y0 y1 y2 y3 y4 y5 y6 y7 y8 y9 y10 y11 y12 y13 y14 y15 y16 y17 y18 y19 y20))
  | 0 => fun _ _ _ _ _ _ _ _ _ _ _ _ _ _ _ _ _ _ _ _ _ r h => by simp [interchangelaw10_ServeWrong.j0] at h
  | k + 1 => by
    have ih0 := interchangelaw10_ServeWrong.mono_l k
    · intro y0 y1 y2 y3 y4 y5 y6 y7 y8 y9 y10 y11 y12 y13 y14 y15 y16 y17 y18 y19 y20
      unfold interchangelaw10_ServeWrong.j0
      repeat' first
      | (with_reducible exact ih0 _ _ _ _ _ _ _ _ _ _ _ _ _ _ _ _ _ _ _ _ _)
      | (with_reducible exact serve_Take.mono _ _ _ _ _ _ _ _ _ _ _)
      | (with_reducible exact LeO.refl _)
      | (with_reducible exact LeO.none _)
      | (with_reducible refine LeO.ite ?_ ?_)
      | (with_reducible refine LeO.bind ?_ (fun _ => ?_))
      | exact ih0 _ _ _ _ _ _ _ _ _ _ _ _ _ _ _ _ _ _ _ _ _
      | exact serve_Take.mono _ _ _ _ _ _ _ _ _ _ _
      | exact LeO.none _
      | refine LeO.ite ?_ ?_
      | refine LeO.bind ?_ (fun _ => ?_)
theorem interchangelaw10_ServeWrong.mono : ∀ a0 a1 a2 a3 a4 a5 a6 a7 a8 a9 k, LeO (interchangelaw10_ServeWrong.f k a0 a1 a2 a3 a4 a5 a6 a7 a8 a9) (interchangelaw10_ServeWrong.f (k + 1) a0 a1 a2 a3 a4 a5 a6 a7 a8 a9) := by
  intro a0 a1 a2 a3 a4 a5 a6 a7 a8 a9 k
  have ih0 := interchangelaw10_ServeWrong.mono_l k
  unfold interchangelaw10_ServeWrong.f
  repeat' first
      | (with_reducible exact ih0 _ _ _ _ _ _ _ _ _ _ _ _ _ _ _ _ _ _ _ _ _)
      | (with_reducible exact serve_Take.mono _ _ _ _ _ _ _ _ _ _ _)
      | (with_reducible exact LeO.refl _)
      | (with_reducible exact LeO.none _)
      | (with_reducible refine LeO.ite ?_ ?_)
      | (with_reducible refine LeO.bind ?_ (fun _ => ?_))
      | exact ih0 _ _ _ _ _ _ _ _ _ _ _ _ _ _ _ _ _ _ _ _ _
      | exact serve_Take.mono _ _ _ _ _ _ _ _ _ _ _
      | exact LeO.none _
      | refine LeO.ite ?_ ?_
      | refine LeO.bind ?_ (fun _ => ?_)
set_option maxHeartbeats 8000000 in
set_option maxRecDepth 100000 in
theorem interchangelaw10_ServeWrong.calls (k : Nat) (a0_0 : Int) (a0_1 : Int) (a0_2 : Int) (a0_3 : Int) (a0_4 : ByteArray) (a0_5 : ByteArray) (a0_6 : ByteArray) (a1_0 : Int) (a1_1 : Int) (A1_2 : Option Addr) (c1_2 : Nat) (l1_2 : List (S56)) (r : Bool) (w : World) (hr1_2 : Kd.C k56 w A1_2 l1_2.length l1_2) (hc1_2 : l1_2.length ≤ c1_2) (h : interchangelaw10_ServeWrong.f k a0_0 a0_1 a0_2 a0_3 a0_4 a0_5 a0_6 a1_0 a1_1 l1_2 = some r) (hWd : Wd w := by first | (with_reducible assumption) | exact hWd.drewN _ | exact Wd.up hWd (by repeat (first | (with_reducible first | exact HB.out | apply below_alloc | apply pw_below_drewN | apply below_drew1) | exact HB.out))) :
    Calls Tryd.prog 6 #[.agg #[.int .i64 a0_0, .int .i64 a0_1, .int .i64 a0_2, .int .i64 a0_3, .string a0_4, .string a0_5, .string a0_6], .agg #[.int .i64 a1_0, .int .i64 a1_1, .slice A1_2 l1_2.length c1_2]] w fun e w' => e = .returned (.bool r) ∧ Below w.heap.size w w' := by
  have hu43 := Tryd.underlying43
  have hu24 := Tryd.underlying24
  have HR1_2 := Aside0.mk hr1_2
  have HC1_2 := Aside0.mk hc1_2
  clear hr1_2 hc1_2
  have HB := Aside0.mk (Below.refl w.heap.size w)
  have H : ((interchangelaw10_shown.f).bind fun t356 => ((serve_Take.f k a0_0 a0_1 a0_2 a0_3 a0_4 a0_5 a0_6 a1_0 a1_1 l1_2).bind fun bt357 => (if a0_0 < 1 then (interchangelaw10_ServeWrong.j0 k t356 bt357.2.2.2.2.2.2.2.1 bt357.2.2.2.2.2.2.2.2 true a0_0 a0_1 a0_2 a0_3 a0_4 a0_5 a0_6 a1_0 a1_1 l1_2 bt357.1 bt357.2.1 bt357.2.2.1 bt357.2.2.2.1 bt357.2.2.2.2.1 bt357.2.2.2.2.2.1 bt357.2.2.2.2.2.2.1) else (if a0_0 > 4 then (interchangelaw10_ServeWrong.j0 k t356 bt357.2.2.2.2.2.2.2.1 bt357.2.2.2.2.2.2.2.2 true a0_0 a0_1 a0_2 a0_3 a0_4 a0_5 a0_6 a1_0 a1_1 l1_2 bt357.1 bt357.2.1 bt357.2.2.1 bt357.2.2.2.1 bt357.2.2.2.2.1 bt357.2.2.2.2.2.1 bt357.2.2.2.2.2.2.1) else (interchangelaw10_ServeWrong.j0 k t356 bt357.2.2.2.2.2.2.2.1 bt357.2.2.2.2.2.2.2.2 (bt357.2.2.2.2.2.2.2.2 == 7) a0_0 a0_1 a0_2 a0_3 a0_4 a0_5 a0_6 a1_0 a1_1 l1_2 bt357.1 bt357.2.1 bt357.2.2.1 bt357.2.2.2.1 bt357.2.2.2.2.1 bt357.2.2.2.2.2.1 bt357.2.2.2.2.2.2.1))))) = some r := h
  clear h
  replace H := Option.bind_eq_some_iff.mp H
  obtain ⟨t356, A30, H⟩ := H
  replace H : ((serve_Take.f k a0_0 a0_1 a0_2 a0_3 a0_4 a0_5 a0_6 a1_0 a1_1 l1_2).bind fun bt357 => (if a0_0 < 1 then (interchangelaw10_ServeWrong.j0 k t356 bt357.2.2.2.2.2.2.2.1 bt357.2.2.2.2.2.2.2.2 true a0_0 a0_1 a0_2 a0_3 a0_4 a0_5 a0_6 a1_0 a1_1 l1_2 bt357.1 bt357.2.1 bt357.2.2.1 bt357.2.2.2.1 bt357.2.2.2.2.1 bt357.2.2.2.2.2.1 bt357.2.2.2.2.2.2.1) else (if a0_0 > 4 then (interchangelaw10_ServeWrong.j0 k t356 bt357.2.2.2.2.2.2.2.1 bt357.2.2.2.2.2.2.2.2 true a0_0 a0_1 a0_2 a0_3 a0_4 a0_5 a0_6 a1_0 a1_1 l1_2 bt357.1 bt357.2.1 bt357.2.2.1 bt357.2.2.2.1 bt357.2.2.2.2.1 bt357.2.2.2.2.2.1 bt357.2.2.2.2.2.2.1) else (interchangelaw10_ServeWrong.j0 k t356 bt357.2.2.2.2.2.2.2.1 bt357.2.2.2.2.2.2.2.2 (bt357.2.2.2.2.2.2.2.2 == 7) a0_0 a0_1 a0_2 a0_3 a0_4 a0_5 a0_6 a1_0 a1_1 l1_2 bt357.1 bt357.2.1 bt357.2.2.1 bt357.2.2.2.1 bt357.2.2.2.2.1 bt357.2.2.2.2.2.1 bt357.2.2.2.2.2.2.1)))) = some r := H
  have A3 := Aside0.mk A30
  clear A30
  replace H := Option.bind_eq_some_iff.mp H
  obtain ⟨⟨t357, t358, t359, t360, t361, t362, t363, t364, t367⟩, A40, H⟩ := H
  replace H : (if a0_0 < 1 then (interchangelaw10_ServeWrong.j0 k t356 t364 t367 true a0_0 a0_1 a0_2 a0_3 a0_4 a0_5 a0_6 a1_0 a1_1 l1_2 t357 t358 t359 t360 t361 t362 t363) else (if a0_0 > 4 then (interchangelaw10_ServeWrong.j0 k t356 t364 t367 true a0_0 a0_1 a0_2 a0_3 a0_4 a0_5 a0_6 a1_0 a1_1 l1_2 t357 t358 t359 t360 t361 t362 t363) else (interchangelaw10_ServeWrong.j0 k t356 t364 t367 (t367 == 7) a0_0 a0_1 a0_2 a0_3 a0_4 a0_5 a0_6 a1_0 a1_1 l1_2 t357 t358 t359 t360 t361 t362 t363))) = some r := H
  have A4 := Aside0.mk A40
  clear A40
  have HC5 := Aside0.mk H
  clear H
  go_enter Tryd.func6, Tryd.ntmps6
  go_upto_region 3 with (first | ((with_reducible refine gate_dst (N := 2) rfl ?_); (try (refine gate_guard (by rfl) ?_; dsimp only)); refine box_event ?hg (N := 2) ?hd (cs := #[.int .i64 a0_0, .int .i64 a0_1, .int .i64 a0_2, .int .i64 a0_3, .string a0_4, .string a0_5, .string a0_6]) (t := 43) ?hr ?_; (case hd => rfl); (case hg => rfl); (case hr => first | (go_simp; done) | (go_simp; rfl)); intro gb354 hg w6 hbox hb; have n0_ := Aside0.mk (below_step (by repeat (first | (with_reducible first | exact HB.out | apply below_alloc | apply pw_below_drewN | apply below_drew1) | exact HB.out)) hb); have n1_ := Aside0.mk (hbox); have n2_ := Aside0.mk ((by rw [hg]; exact (below_size (by repeat (first | (with_reducible first | exact HB.out | apply below_alloc | apply pw_below_drewN | apply below_drew1) | exact HB.out))) : w.heap.size ≤ gb354)); have n3_ := Aside0.mk ((by rw [hg]; exact (below_size (by repeat (first | (with_reducible first | exact HB.out | apply below_alloc | apply pw_below_drewN | apply below_drew1) | exact HB.out))) : w.heap.size ≤ gb354)); clear HB; have HB := n0_; have BK354 := n1_; have GW354 := n2_; have GE354 := n3_; clear n0_ n1_ n2_ n3_; clear hb hbox hg) | ((with_reducible refine gate_dst (N := 3) rfl ?_); (try (refine gate_guard (by rfl) ?_; dsimp only)); refine box_event ?hg (N := 3) ?hd (cs := #[.int .i64 a1_0, .int .i64 a1_1, .slice A1_2 l1_2.length c1_2]) (t := 24) ?hr ?_; (case hd => rfl); (case hg => rfl); (case hr => first | (go_simp; done) | (go_simp; rfl)); intro gb355 hg w7 hbox hb; have n0_ := Aside0.mk (blk_below (g := gb354) (o := .cells #[.int .i64 a0_0, .int .i64 a0_1, .int .i64 a0_2, .int .i64 a0_3, .string a0_4, .string a0_5, .string a0_6] 43 (0, 0)) (by (with_reducible repeat (first | refine blk_drewN ?_ _ | refine blk_drew ?_ | refine blk_alloc ?_ _)); exact BK354.out) hb); have n1_ := Aside0.mk (below_step (by repeat (first | (with_reducible first | exact HB.out | apply below_alloc | apply pw_below_drewN | apply below_drew1 | refine below_set ?_ GE354.out) | exact HB.out)) hb); have n2_ := Aside0.mk (hbox); have n3_ := Aside0.mk ((by rw [hg]; exact (below_size (by repeat (first | (with_reducible first | exact HB.out | apply below_alloc | apply pw_below_drewN | apply below_drew1 | refine below_set ?_ GE354.out) | exact HB.out))) : w.heap.size ≤ gb355)); have n4_ := Aside0.mk ((by rw [hg]; exact (below_size (by repeat (first | (with_reducible first | exact HB.out | apply below_alloc | apply pw_below_drewN | apply below_drew1 | refine below_set ?_ GE354.out) | exact HB.out))) : w.heap.size ≤ gb355)); have n5_ := Aside0.mk ((by rw [hg]; exact Nat.ne_of_lt (blk_lt (g := gb354) (o := .cells #[.int .i64 a0_0, .int .i64 a0_1, .int .i64 a0_2, .int .i64 a0_3, .string a0_4, .string a0_5, .string a0_6] 43 (0, 0)) (by (with_reducible repeat (first | refine blk_drewN ?_ _ | refine blk_drew ?_ | refine blk_alloc ?_ _)); exact BK354.out)) : gb354 ≠ gb355)); have n6_ := Aside0.mk ((by rw [hg]; exact Nat.ne_of_gt (blk_lt (g := gb354) (o := .cells #[.int .i64 a0_0, .int .i64 a0_1, .int .i64 a0_2, .int .i64 a0_3, .string a0_4, .string a0_5, .string a0_6] 43 (0, 0)) (by (with_reducible repeat (first | refine blk_drewN ?_ _ | refine blk_drew ?_ | refine blk_alloc ?_ _)); exact BK354.out)) : gb355 ≠ gb354)); clear BK354; clear HB; have BK354 := n0_; have HB := n1_; have BK355 := n2_; have GW355 := n3_; have GE355 := n4_; have NB354_355 := n5_; have NB355_354 := n6_; clear n0_ n1_ n2_ n3_ n4_ n5_ n6_; clear hb hbox hg) | ((with_reducible refine gate_callee (f := 24) rfl ?_); refine goesL_ (some 9) rfl rfl Tryd.func24 (by kernel_rfl) rfl #[] rfl (by (try simp only [List.map_toArray, List.map_cons, List.map_nil]); first | done | rfl | (simp only [List.length_drop, List.length_take]; rfl)) ?_; (with_reducible refine (interchangelaw10_shown.calls  t356 _ A3.out).mono ?_); rintro e w8 ⟨rfl, hb⟩; refine ⟨_, rfl, ?_⟩; have n0_ := Aside0.mk (blk_below (g := gb354) (o := .cells #[.int .i64 a0_0, .int .i64 a0_1, .int .i64 a0_2, .int .i64 a0_3, .string a0_4, .string a0_5, .string a0_6] 43 (0, 0)) (by (with_reducible repeat (first | refine blk_drewN ?_ _ | refine blk_drew ?_ | refine blk_alloc ?_ _)); exact BK354.out) hb); have n1_ := Aside0.mk (blk_below (g := gb355) (o := .cells #[.int .i64 a1_0, .int .i64 a1_1, .slice A1_2 l1_2.length c1_2] 24 (0, 0)) (by (with_reducible repeat (first | refine blk_drewN ?_ _ | refine blk_drew ?_ | refine blk_alloc ?_ _)); exact BK355.out) hb); have n2_ := Aside0.mk (below_step (by repeat (first | (with_reducible first | exact HB.out | apply below_alloc | apply pw_below_drewN | apply below_drew1 | refine below_set ?_ GE354.out | refine below_set ?_ GE355.out) | exact HB.out)) hb); clear BK354; clear BK355; clear HB; have BK354 := n0_; have BK355 := n1_; have HB := n2_; clear n0_ n1_ n2_; (try clear hb); (try clear hb2); (try clear hk); (try clear hi); have hnb9 := NB354_355.out; have hnc9 := NB355_354.out; have hcz10_0 : w8.cell? ⟨gb354, 0, none⟩ = some (.int .i64 a0_0) := (blk_cell BK354.out 0).trans rfl; have hcz10_1 : w8.cell? ⟨gb354, 1, none⟩ = some (.int .i64 a0_1) := (blk_cell BK354.out 1).trans rfl; have hcz10_2 : w8.cell? ⟨gb354, 2, none⟩ = some (.int .i64 a0_2) := (blk_cell BK354.out 2).trans rfl; have hcz10_3 : w8.cell? ⟨gb354, 3, none⟩ = some (.int .i64 a0_3) := (blk_cell BK354.out 3).trans rfl; have hcz10_4 : w8.cell? ⟨gb354, 4, none⟩ = some (.string a0_4) := (blk_cell BK354.out 4).trans rfl; have hcz10_5 : w8.cell? ⟨gb354, 5, none⟩ = some (.string a0_5) := (blk_cell BK354.out 5).trans rfl; have hcz10_6 : w8.cell? ⟨gb354, 6, none⟩ = some (.string a0_6) := (blk_cell BK354.out 6).trans rfl; have hfz10_0 := blk_frozen BK354.out 0; have hfz10_1 := blk_frozen BK354.out 1; have hfz10_2 := blk_frozen BK354.out 2; have hfz10_3 := blk_frozen BK354.out 3; have hfz10_4 := blk_frozen BK354.out 4; have hfz10_5 := blk_frozen BK354.out 5; have hfz10_6 := blk_frozen BK354.out 6; have hcz11_0 : w8.cell? ⟨gb355, 0, none⟩ = some (.int .i64 a1_0) := (blk_cell BK355.out 0).trans rfl; have hcz11_1 : w8.cell? ⟨gb355, 1, none⟩ = some (.int .i64 a1_1) := (blk_cell BK355.out 1).trans rfl; have hcz11_2 : w8.cell? ⟨gb355, 2, none⟩ = some (.slice A1_2 l1_2.length c1_2) := (blk_cell BK355.out 2).trans rfl; have hfz11_0 := blk_frozen BK355.out 0; have hfz11_1 := blk_frozen BK355.out 1; have hfz11_2 := blk_frozen BK355.out 2) | ((with_reducible refine gate_callee (f := 28) rfl ?_); refine goesL_ (some 13) rfl rfl Tryd.func28 (by kernel_rfl) rfl #[.agg #[.int .i64 a0_0, .int .i64 a0_1, .int .i64 a0_2, .int .i64 a0_3, .string a0_4, .string a0_5, .string a0_6], .agg #[.int .i64 a1_0, .int .i64 a1_1, .slice A1_2 l1_2.length c1_2]] rfl (by (try simp only [List.map_toArray, List.map_cons, List.map_nil]); first | done | rfl | (simp only [List.length_drop, List.length_take]; rfl)) ?_; (with_reducible refine (serve_Take.calls k a0_0 a0_1 a0_2 a0_3 a0_4 a0_5 a0_6 a1_0 a1_1 _ _ l1_2 t357 t358 t359 t360 t361 t362 t363 t364 t367 _ ?side1 ?side2 A4.out).mono ?_); (case side1 => repeat (first | exact (Kd.C_below HR1_2.out HB.out) | (with_reducible refine Kd.C_alloc ?_ _) | (with_reducible refine Kd.C_drewN ?_ _) | (with_reducible refine Kd.C_drew ?_))); (case side2 => exact HC1_2.out); rintro e w12 ⟨v365, rfl, ho0, hb⟩; refine ⟨_, rfl, ?_⟩; have n0_ := Aside0.mk (Kd.N_lower (Kd.N_mono (ok' := fun k_ => k_ ≠ gb354 ∧ k_ ≠ gb355) ho0 (fun k_ hk_ => ⟨(Kd.freshB (g := gb354) (o := .cells #[.int .i64 a0_0, .int .i64 a0_1, .int .i64 a0_2, .int .i64 a0_3, .string a0_4, .string a0_5, .string a0_6] 43 (0, 0)) (by (with_reducible repeat (first | refine blk_drewN ?_ _ | refine blk_drew ?_ | refine blk_alloc ?_ _)); exact BK354.out) k_ hk_), (Kd.freshB (g := gb355) (o := .cells #[.int .i64 a1_0, .int .i64 a1_1, .slice A1_2 l1_2.length c1_2] 24 (0, 0)) (by (with_reducible repeat (first | refine blk_drewN ?_ _ | refine blk_drew ?_ | refine blk_alloc ?_ _)); exact BK355.out) k_ hk_)⟩)) (below_size (by repeat (first | (with_reducible first | exact HB.out | apply below_alloc | apply pw_below_drewN | apply below_drew1 | refine below_set ?_ GE354.out | refine below_set ?_ GE355.out) | exact HB.out)))); have n1_ := Aside0.mk (blk_below (g := gb354) (o := .cells #[.int .i64 a0_0, .int .i64 a0_1, .int .i64 a0_2, .int .i64 a0_3, .string a0_4, .string a0_5, .string a0_6] 43 (0, 0)) (by (with_reducible repeat (first | refine blk_drewN ?_ _ | refine blk_drew ?_ | refine blk_alloc ?_ _)); exact BK354.out) hb); have n2_ := Aside0.mk (blk_below (g := gb355) (o := .cells #[.int .i64 a1_0, .int .i64 a1_1, .slice A1_2 l1_2.length c1_2] 24 (0, 0)) (by (with_reducible repeat (first | refine blk_drewN ?_ _ | refine blk_drew ?_ | refine blk_alloc ?_ _)); exact BK355.out) hb); have n3_ := Aside0.mk (below_step (by repeat (first | (with_reducible first | exact HB.out | apply below_alloc | apply pw_below_drewN | apply below_drew1 | refine below_set ?_ GE354.out | refine below_set ?_ GE355.out) | exact HB.out)) hb); clear BK354; clear BK355; clear HB; have HO366 := n0_; have BK354 := n1_; have BK355 := n2_; have HB := n3_; clear n0_ n1_ n2_ n3_; (try clear hb); (try clear hb2); (try clear hk); (try clear hi); (try clear ho0)) | ((with_reducible refine gate_dst (N := 6) rfl ?_); (try (refine gate_guard (by rfl) ?_; dsimp only)); refine box_event ?hg (N := 6) ?hd (cs := #[.int .i64 0, .int .i64 0, .int .i64 0, .int .i64 0, .string (⟨#[]⟩ : ByteArray), .string (⟨#[]⟩ : ByteArray), .string (⟨#[]⟩ : ByteArray)]) (t := 43) ?hr ?_; (case hd => rfl); (case hg => rfl); (case hr => first | (go_simp; done) | (go_simp; rfl)); intro gb368 hg w13 hbox hb; have n0_ := Aside0.mk (Kd.N_below (Kd.N_elderB (by (with_reducible repeat (first | apply Kd.N_alloc | apply Kd.N_drewN | apply Kd.N_drew)); exact HO366.out) gb368 (Nat.le_of_eq hg.symm)) hb); have n1_ := Aside0.mk (blk_below (g := gb354) (o := .cells #[.int .i64 a0_0, .int .i64 a0_1, .int .i64 a0_2, .int .i64 a0_3, .string a0_4, .string a0_5, .string a0_6] 43 (0, 0)) (by (with_reducible repeat (first | refine blk_drewN ?_ _ | refine blk_drew ?_ | refine blk_alloc ?_ _)); exact BK354.out) hb); have n2_ := Aside0.mk (blk_below (g := gb355) (o := .cells #[.int .i64 a1_0, .int .i64 a1_1, .slice A1_2 l1_2.length c1_2] 24 (0, 0)) (by (with_reducible repeat (first | refine blk_drewN ?_ _ | refine blk_drew ?_ | refine blk_alloc ?_ _)); exact BK355.out) hb); have n3_ := Aside0.mk (below_step (by repeat (first | (with_reducible first | exact HB.out | apply below_alloc | apply pw_below_drewN | apply below_drew1 | refine below_set ?_ GE354.out | refine below_set ?_ GE355.out) | exact HB.out)) hb); have n4_ := Aside0.mk (hbox); have n5_ := Aside0.mk ((by rw [hg]; exact (below_size (by repeat (first | (with_reducible first | exact HB.out | apply below_alloc | apply pw_below_drewN | apply below_drew1 | refine below_set ?_ GE354.out | refine below_set ?_ GE355.out) | exact HB.out))) : w.heap.size ≤ gb368)); have n6_ := Aside0.mk ((by rw [hg]; exact (below_size (by repeat (first | (with_reducible first | exact HB.out | apply below_alloc | apply pw_below_drewN | apply below_drew1 | refine below_set ?_ GE354.out | refine below_set ?_ GE355.out) | exact HB.out))) : w.heap.size ≤ gb368)); have n7_ := Aside0.mk ((by rw [hg]; exact Nat.ne_of_lt (blk_lt (g := gb354) (o := .cells #[.int .i64 a0_0, .int .i64 a0_1, .int .i64 a0_2, .int .i64 a0_3, .string a0_4, .string a0_5, .string a0_6] 43 (0, 0)) (by (with_reducible repeat (first | refine blk_drewN ?_ _ | refine blk_drew ?_ | refine blk_alloc ?_ _)); exact BK354.out)) : gb354 ≠ gb368)); have n8_ := Aside0.mk ((by rw [hg]; exact Nat.ne_of_gt (blk_lt (g := gb354) (o := .cells #[.int .i64 a0_0, .int .i64 a0_1, .int .i64 a0_2, .int .i64 a0_3, .string a0_4, .string a0_5, .string a0_6] 43 (0, 0)) (by (with_reducible repeat (first | refine blk_drewN ?_ _ | refine blk_drew ?_ | refine blk_alloc ?_ _)); exact BK354.out)) : gb368 ≠ gb354)); have n9_ := Aside0.mk ((by rw [hg]; exact Nat.ne_of_lt (blk_lt (g := gb355) (o := .cells #[.int .i64 a1_0, .int .i64 a1_1, .slice A1_2 l1_2.length c1_2] 24 (0, 0)) (by (with_reducible repeat (first | refine blk_drewN ?_ _ | refine blk_drew ?_ | refine blk_alloc ?_ _)); exact BK355.out)) : gb355 ≠ gb368)); have n10_ := Aside0.mk ((by rw [hg]; exact Nat.ne_of_gt (blk_lt (g := gb355) (o := .cells #[.int .i64 a1_0, .int .i64 a1_1, .slice A1_2 l1_2.length c1_2] 24 (0, 0)) (by (with_reducible repeat (first | refine blk_drewN ?_ _ | refine blk_drew ?_ | refine blk_alloc ?_ _)); exact BK355.out)) : gb368 ≠ gb355)); clear HO366; clear BK354; clear BK355; clear HB; have HO366 := n0_; have BK354 := n1_; have BK355 := n2_; have HB := n3_; have BK368 := n4_; have GW368 := n5_; have GE368 := n6_; have NB354_368 := n7_; have NB368_354 := n8_; have NB355_368 := n9_; have NB368_355 := n10_; clear n0_ n1_ n2_ n3_ n4_ n5_ n6_ n7_ n8_ n9_ n10_; clear hb hbox hg; have hnb14 := NB368_354.out; have hnc14 := NB354_368.out; have hnb15 := NB368_355.out; have hnc15 := NB355_368.out; have hcz16_0 : w13.cell? ⟨gb368, 0, none⟩ = some (.int .i64 0) := (blk_cell BK368.out 0).trans rfl; have hcz16_1 : w13.cell? ⟨gb368, 1, none⟩ = some (.int .i64 0) := (blk_cell BK368.out 1).trans rfl; have hcz16_2 : w13.cell? ⟨gb368, 2, none⟩ = some (.int .i64 0) := (blk_cell BK368.out 2).trans rfl; have hcz16_3 : w13.cell? ⟨gb368, 3, none⟩ = some (.int .i64 0) := (blk_cell BK368.out 3).trans rfl; have hcz16_4 : w13.cell? ⟨gb368, 4, none⟩ = some (.string (⟨#[]⟩ : ByteArray)) := (blk_cell BK368.out 4).trans rfl; have hcz16_5 : w13.cell? ⟨gb368, 5, none⟩ = some (.string (⟨#[]⟩ : ByteArray)) := (blk_cell BK368.out 5).trans rfl; have hcz16_6 : w13.cell? ⟨gb368, 6, none⟩ = some (.string (⟨#[]⟩ : ByteArray)) := (blk_cell BK368.out 6).trans rfl; have hfz16_0 := blk_frozen BK368.out 0; have hfz16_1 := blk_frozen BK368.out 1; have hfz16_2 := blk_frozen BK368.out 2; have hfz16_3 := blk_frozen BK368.out 3; have hfz16_4 := blk_frozen BK368.out 4; have hfz16_5 := blk_frozen BK368.out 5; have hfz16_6 := blk_frozen BK368.out 6))
  (try simp only [Act.put, List.setIfInBounds_toArray, List.set_cons_zero, List.set_cons_succ])
  go_cut [28] (fun v28 wc => ∃ (kq : Nat) (x28_4 : Bool), v28 = .bool x28_4 ∧ Aside0 (interchangelaw10_ServeWrong.j0 kq t356 t364 t367 x28_4 a0_0 a0_1 a0_2 a0_3 a0_4 a0_5 a0_6 a1_0 a1_1 l1_2 t357 t358 t359 t360 t361 t362 t363 = some r) ∧ Aside0 (kq ≤ k) ∧ Aside0 (Kd.N k24 24 wc w.heap.size (fun k_ => k_ ≠ gb354 ∧ k_ ≠ gb355 ∧ k_ ≠ gb368) v365 t364) ∧ Aside0 (wc.heap[gb354]? = some (.cells #[.int .i64 a0_0, .int .i64 a0_1, .int .i64 a0_2, .int .i64 a0_3, .string a0_4, .string a0_5, .string a0_6] 43 (0, 0))) ∧ Aside0 (wc.heap[gb355]? = some (.cells #[.int .i64 a1_0, .int .i64 a1_1, (.slice A1_2 l1_2.length c1_2)] 24 (0, 0))) ∧ Aside0 (wc.heap[gb368]? = some (.cells #[.int .i64 t357, .int .i64 t358, .int .i64 t359, .int .i64 t360, .string t361, .string t362, .string t363] 43 (0, 0))) ∧ Aside0 (Below w.heap.size w wc))
  case first =>
    have H := HC5.out
    clear HC5
    by_cases c17 : a0_0 < 1
    · rw [if_pos c17] at H
      have c17b0 : decide (a0_0 < 1) = true := decide_eq_true c17
      clear c17
      (first | rw [c17b0] | (simp only [i64_w, i32_w]; rw [c17b0]) | skip)
      have H' := Aside0.mk H
      clear H
      have hnb18 := NB354_355.out
      have hnc18 := NB355_354.out
      have hnb19 := NB354_368.out
      have hnc19 := NB368_354.out
      have hcz20_0 : w13.cell? ⟨gb354, 0, none⟩ = some (.int .i64 a0_0) := (blk_cell BK354.out 0).trans rfl
      have hcz20_1 : w13.cell? ⟨gb354, 1, none⟩ = some (.int .i64 a0_1) := (blk_cell BK354.out 1).trans rfl
      have hcz20_2 : w13.cell? ⟨gb354, 2, none⟩ = some (.int .i64 a0_2) := (blk_cell BK354.out 2).trans rfl
      have hcz20_3 : w13.cell? ⟨gb354, 3, none⟩ = some (.int .i64 a0_3) := (blk_cell BK354.out 3).trans rfl
      have hcz20_4 : w13.cell? ⟨gb354, 4, none⟩ = some (.string a0_4) := (blk_cell BK354.out 4).trans rfl
      have hcz20_5 : w13.cell? ⟨gb354, 5, none⟩ = some (.string a0_5) := (blk_cell BK354.out 5).trans rfl
      have hcz20_6 : w13.cell? ⟨gb354, 6, none⟩ = some (.string a0_6) := (blk_cell BK354.out 6).trans rfl
      have hfz20_0 := blk_frozen BK354.out 0
      have hfz20_1 := blk_frozen BK354.out 1
      have hfz20_2 := blk_frozen BK354.out 2
      have hfz20_3 := blk_frozen BK354.out 3
      have hfz20_4 := blk_frozen BK354.out 4
      have hfz20_5 := blk_frozen BK354.out 5
      have hfz20_6 := blk_frozen BK354.out 6
      go_wp2
      go_meet
      case rel => exact ⟨_, (true), (by first | rfl | (simp; done) | (simp [*]; done)), H', ⟨by first | omega | exact Nat.le_refl _⟩, ⟨by (with_reducible repeat (first | apply Kd.N_alloc | apply Kd.N_drewN | apply Kd.N_drew)); exact Kd.N_mono (Kd.N_far (p := ⟨gb368, 6, none⟩) (Kd.N_far (p := ⟨gb368, 5, none⟩) (Kd.N_far (p := ⟨gb368, 4, none⟩) (Kd.N_far (p := ⟨gb368, 3, none⟩) (Kd.N_far (p := ⟨gb368, 2, none⟩) (Kd.N_far (p := ⟨gb368, 1, none⟩) (Kd.N_far (p := ⟨gb368, 0, none⟩) (Kd.N_mono HO366.out (fun k_ hk => (⟨hk, hk.2⟩ : _ ∧ k_ ≠ gb368))) (fun _ hk => hk.2) (.int .i64 t357)) (fun _ hk => hk.2) (.int .i64 t358)) (fun _ hk => hk.2) (.int .i64 t359)) (fun _ hk => hk.2) (.int .i64 t360)) (fun _ hk => hk.2) (.string t361)) (fun _ hk => hk.2) (.string t362)) (fun _ hk => hk.2) (.string t363)) (fun _ hk => ⟨hk.1.1.1, ⟨hk.1.1.2, hk.1.2⟩⟩)⟩, ⟨by (with_reducible repeat (first | refine blk_drewN ?_ _ | refine blk_drew ?_ | refine blk_alloc ?_ _)); refine blk_far ?_ NB354_368.out _; (with_reducible repeat (first | refine blk_drewN ?_ _ | refine blk_drew ?_ | refine blk_alloc ?_ _)); refine blk_far ?_ NB354_368.out _; (with_reducible repeat (first | refine blk_drewN ?_ _ | refine blk_drew ?_ | refine blk_alloc ?_ _)); refine blk_far ?_ NB354_368.out _; (with_reducible repeat (first | refine blk_drewN ?_ _ | refine blk_drew ?_ | refine blk_alloc ?_ _)); refine blk_far ?_ NB354_368.out _; (with_reducible repeat (first | refine blk_drewN ?_ _ | refine blk_drew ?_ | refine blk_alloc ?_ _)); refine blk_far ?_ NB354_368.out _; (with_reducible repeat (first | refine blk_drewN ?_ _ | refine blk_drew ?_ | refine blk_alloc ?_ _)); refine blk_far ?_ NB354_368.out _; (with_reducible repeat (first | refine blk_drewN ?_ _ | refine blk_drew ?_ | refine blk_alloc ?_ _)); refine blk_far ?_ NB354_368.out _; (with_reducible repeat (first | refine blk_drewN ?_ _ | refine blk_drew ?_ | refine blk_alloc ?_ _)); exact BK354.out⟩, ⟨by (with_reducible repeat (first | refine blk_drewN ?_ _ | refine blk_drew ?_ | refine blk_alloc ?_ _)); refine blk_far ?_ NB355_368.out _; (with_reducible repeat (first | refine blk_drewN ?_ _ | refine blk_drew ?_ | refine blk_alloc ?_ _)); refine blk_far ?_ NB355_368.out _; (with_reducible repeat (first | refine blk_drewN ?_ _ | refine blk_drew ?_ | refine blk_alloc ?_ _)); refine blk_far ?_ NB355_368.out _; (with_reducible repeat (first | refine blk_drewN ?_ _ | refine blk_drew ?_ | refine blk_alloc ?_ _)); refine blk_far ?_ NB355_368.out _; (with_reducible repeat (first | refine blk_drewN ?_ _ | refine blk_drew ?_ | refine blk_alloc ?_ _)); refine blk_far ?_ NB355_368.out _; (with_reducible repeat (first | refine blk_drewN ?_ _ | refine blk_drew ?_ | refine blk_alloc ?_ _)); refine blk_far ?_ NB355_368.out _; (with_reducible repeat (first | refine blk_drewN ?_ _ | refine blk_drew ?_ | refine blk_alloc ?_ _)); refine blk_far ?_ NB355_368.out _; (with_reducible repeat (first | refine blk_drewN ?_ _ | refine blk_drew ?_ | refine blk_alloc ?_ _)); exact BK355.out⟩, ⟨by (with_reducible repeat (first | refine blk_drewN ?_ _ | refine blk_drew ?_ | refine blk_alloc ?_ _)); refine blk_put (cs := #[.int .i64 t357, .int .i64 t358, .int .i64 t359, .int .i64 t360, .string t361, .string t362, .string (⟨#[]⟩ : ByteArray)]) ?_ 6 _ rfl; (with_reducible repeat (first | refine blk_drewN ?_ _ | refine blk_drew ?_ | refine blk_alloc ?_ _)); refine blk_put (cs := #[.int .i64 t357, .int .i64 t358, .int .i64 t359, .int .i64 t360, .string t361, .string (⟨#[]⟩ : ByteArray), .string (⟨#[]⟩ : ByteArray)]) ?_ 5 _ rfl; (with_reducible repeat (first | refine blk_drewN ?_ _ | refine blk_drew ?_ | refine blk_alloc ?_ _)); refine blk_put (cs := #[.int .i64 t357, .int .i64 t358, .int .i64 t359, .int .i64 t360, .string (⟨#[]⟩ : ByteArray), .string (⟨#[]⟩ : ByteArray), .string (⟨#[]⟩ : ByteArray)]) ?_ 4 _ rfl; (with_reducible repeat (first | refine blk_drewN ?_ _ | refine blk_drew ?_ | refine blk_alloc ?_ _)); refine blk_put (cs := #[.int .i64 t357, .int .i64 t358, .int .i64 t359, .int .i64 0, .string (⟨#[]⟩ : ByteArray), .string (⟨#[]⟩ : ByteArray), .string (⟨#[]⟩ : ByteArray)]) ?_ 3 _ rfl; (with_reducible repeat (first | refine blk_drewN ?_ _ | refine blk_drew ?_ | refine blk_alloc ?_ _)); refine blk_put (cs := #[.int .i64 t357, .int .i64 t358, .int .i64 0, .int .i64 0, .string (⟨#[]⟩ : ByteArray), .string (⟨#[]⟩ : ByteArray), .string (⟨#[]⟩ : ByteArray)]) ?_ 2 _ rfl; (with_reducible repeat (first | refine blk_drewN ?_ _ | refine blk_drew ?_ | refine blk_alloc ?_ _)); refine blk_put (cs := #[.int .i64 t357, .int .i64 0, .int .i64 0, .int .i64 0, .string (⟨#[]⟩ : ByteArray), .string (⟨#[]⟩ : ByteArray), .string (⟨#[]⟩ : ByteArray)]) ?_ 1 _ rfl; (with_reducible repeat (first | refine blk_drewN ?_ _ | refine blk_drew ?_ | refine blk_alloc ?_ _)); refine blk_put (cs := #[.int .i64 0, .int .i64 0, .int .i64 0, .int .i64 0, .string (⟨#[]⟩ : ByteArray), .string (⟨#[]⟩ : ByteArray), .string (⟨#[]⟩ : ByteArray)]) ?_ 0 _ rfl; (with_reducible repeat (first | refine blk_drewN ?_ _ | refine blk_drew ?_ | refine blk_alloc ?_ _)); exact BK368.out⟩, ⟨by repeat (first | (with_reducible first | exact HB.out | apply below_alloc | apply pw_below_drewN | apply below_drew1 | refine below_set ?_ GE354.out | refine below_set ?_ GE355.out | refine below_set ?_ GE368.out) | exact HB.out)⟩⟩
    · rw [if_neg c17] at H
      have c17b0 : decide (a0_0 < 1) = false := decide_eq_false c17
      clear c17
      (first | rw [c17b0] | (simp only [i64_w, i32_w]; rw [c17b0]) | skip)
      by_cases c21 : a0_0 > 4
      · rw [if_pos c21] at H
        have c21b0 : decide (4 < a0_0) = true := decide_eq_true c21
        clear c21
        have H' := Aside0.mk H
        clear H
        have hnb22 := NB354_355.out
        have hnc22 := NB355_354.out
        have hnb23 := NB354_368.out
        have hnc23 := NB368_354.out
        have hcz24_0 : w13.cell? ⟨gb354, 0, none⟩ = some (.int .i64 a0_0) := (blk_cell BK354.out 0).trans rfl
        have hcz24_1 : w13.cell? ⟨gb354, 1, none⟩ = some (.int .i64 a0_1) := (blk_cell BK354.out 1).trans rfl
        have hcz24_2 : w13.cell? ⟨gb354, 2, none⟩ = some (.int .i64 a0_2) := (blk_cell BK354.out 2).trans rfl
        have hcz24_3 : w13.cell? ⟨gb354, 3, none⟩ = some (.int .i64 a0_3) := (blk_cell BK354.out 3).trans rfl
        have hcz24_4 : w13.cell? ⟨gb354, 4, none⟩ = some (.string a0_4) := (blk_cell BK354.out 4).trans rfl
        have hcz24_5 : w13.cell? ⟨gb354, 5, none⟩ = some (.string a0_5) := (blk_cell BK354.out 5).trans rfl
        have hcz24_6 : w13.cell? ⟨gb354, 6, none⟩ = some (.string a0_6) := (blk_cell BK354.out 6).trans rfl
        have hfz24_0 := blk_frozen BK354.out 0
        have hfz24_1 := blk_frozen BK354.out 1
        have hfz24_2 := blk_frozen BK354.out 2
        have hfz24_3 := blk_frozen BK354.out 3
        have hfz24_4 := blk_frozen BK354.out 4
        have hfz24_5 := blk_frozen BK354.out 5
        have hfz24_6 := blk_frozen BK354.out 6
        go_wp2
        go_meet
        case rel => exact ⟨_, (true), (by first | rfl | (simp; done) | (simp [*]; done)), H', ⟨by first | omega | exact Nat.le_refl _⟩, ⟨by (with_reducible repeat (first | apply Kd.N_alloc | apply Kd.N_drewN | apply Kd.N_drew)); exact Kd.N_mono (Kd.N_far (p := ⟨gb368, 6, none⟩) (Kd.N_far (p := ⟨gb368, 5, none⟩) (Kd.N_far (p := ⟨gb368, 4, none⟩) (Kd.N_far (p := ⟨gb368, 3, none⟩) (Kd.N_far (p := ⟨gb368, 2, none⟩) (Kd.N_far (p := ⟨gb368, 1, none⟩) (Kd.N_far (p := ⟨gb368, 0, none⟩) (Kd.N_mono HO366.out (fun k_ hk => (⟨hk, hk.2⟩ : _ ∧ k_ ≠ gb368))) (fun _ hk => hk.2) (.int .i64 t357)) (fun _ hk => hk.2) (.int .i64 t358)) (fun _ hk => hk.2) (.int .i64 t359)) (fun _ hk => hk.2) (.int .i64 t360)) (fun _ hk => hk.2) (.string t361)) (fun _ hk => hk.2) (.string t362)) (fun _ hk => hk.2) (.string t363)) (fun _ hk => ⟨hk.1.1.1, ⟨hk.1.1.2, hk.1.2⟩⟩)⟩, ⟨by (with_reducible repeat (first | refine blk_drewN ?_ _ | refine blk_drew ?_ | refine blk_alloc ?_ _)); refine blk_far ?_ NB354_368.out _; (with_reducible repeat (first | refine blk_drewN ?_ _ | refine blk_drew ?_ | refine blk_alloc ?_ _)); refine blk_far ?_ NB354_368.out _; (with_reducible repeat (first | refine blk_drewN ?_ _ | refine blk_drew ?_ | refine blk_alloc ?_ _)); refine blk_far ?_ NB354_368.out _; (with_reducible repeat (first | refine blk_drewN ?_ _ | refine blk_drew ?_ | refine blk_alloc ?_ _)); refine blk_far ?_ NB354_368.out _; (with_reducible repeat (first | refine blk_drewN ?_ _ | refine blk_drew ?_ | refine blk_alloc ?_ _)); refine blk_far ?_ NB354_368.out _; (with_reducible repeat (first | refine blk_drewN ?_ _ | refine blk_drew ?_ | refine blk_alloc ?_ _)); refine blk_far ?_ NB354_368.out _; (with_reducible repeat (first | refine blk_drewN ?_ _ | refine blk_drew ?_ | refine blk_alloc ?_ _)); refine blk_far ?_ NB354_368.out _; (with_reducible repeat (first | refine blk_drewN ?_ _ | refine blk_drew ?_ | refine blk_alloc ?_ _)); exact BK354.out⟩, ⟨by (with_reducible repeat (first | refine blk_drewN ?_ _ | refine blk_drew ?_ | refine blk_alloc ?_ _)); refine blk_far ?_ NB355_368.out _; (with_reducible repeat (first | refine blk_drewN ?_ _ | refine blk_drew ?_ | refine blk_alloc ?_ _)); refine blk_far ?_ NB355_368.out _; (with_reducible repeat (first | refine blk_drewN ?_ _ | refine blk_drew ?_ | refine blk_alloc ?_ _)); refine blk_far ?_ NB355_368.out _; (with_reducible repeat (first | refine blk_drewN ?_ _ | refine blk_drew ?_ | refine blk_alloc ?_ _)); refine blk_far ?_ NB355_368.out _; (with_reducible repeat (first | refine blk_drewN ?_ _ | refine blk_drew ?_ | refine blk_alloc ?_ _)); refine blk_far ?_ NB355_368.out _; (with_reducible repeat (first | refine blk_drewN ?_ _ | refine blk_drew ?_ | refine blk_alloc ?_ _)); refine blk_far ?_ NB355_368.out _; (with_reducible repeat (first | refine blk_drewN ?_ _ | refine blk_drew ?_ | refine blk_alloc ?_ _)); refine blk_far ?_ NB355_368.out _; (with_reducible repeat (first | refine blk_drewN ?_ _ | refine blk_drew ?_ | refine blk_alloc ?_ _)); exact BK355.out⟩, ⟨by (with_reducible repeat (first | refine blk_drewN ?_ _ | refine blk_drew ?_ | refine blk_alloc ?_ _)); refine blk_put (cs := #[.int .i64 t357, .int .i64 t358, .int .i64 t359, .int .i64 t360, .string t361, .string t362, .string (⟨#[]⟩ : ByteArray)]) ?_ 6 _ rfl; (with_reducible repeat (first | refine blk_drewN ?_ _ | refine blk_drew ?_ | refine blk_alloc ?_ _)); refine blk_put (cs := #[.int .i64 t357, .int .i64 t358, .int .i64 t359, .int .i64 t360, .string t361, .string (⟨#[]⟩ : ByteArray), .string (⟨#[]⟩ : ByteArray)]) ?_ 5 _ rfl; (with_reducible repeat (first | refine blk_drewN ?_ _ | refine blk_drew ?_ | refine blk_alloc ?_ _)); refine blk_put (cs := #[.int .i64 t357, .int .i64 t358, .int .i64 t359, .int .i64 t360, .string (⟨#[]⟩ : ByteArray), .string (⟨#[]⟩ : ByteArray), .string (⟨#[]⟩ : ByteArray)]) ?_ 4 _ rfl; (with_reducible repeat (first | refine blk_drewN ?_ _ | refine blk_drew ?_ | refine blk_alloc ?_ _)); refine blk_put (cs := #[.int .i64 t357, .int .i64 t358, .int .i64 t359, .int .i64 0, .string (⟨#[]⟩ : ByteArray), .string (⟨#[]⟩ : ByteArray), .string (⟨#[]⟩ : ByteArray)]) ?_ 3 _ rfl; (with_reducible repeat (first | refine blk_drewN ?_ _ | refine blk_drew ?_ | refine blk_alloc ?_ _)); refine blk_put (cs := #[.int .i64 t357, .int .i64 t358, .int .i64 0, .int .i64 0, .string (⟨#[]⟩ : ByteArray), .string (⟨#[]⟩ : ByteArray), .string (⟨#[]⟩ : ByteArray)]) ?_ 2 _ rfl; (with_reducible repeat (first | refine blk_drewN ?_ _ | refine blk_drew ?_ | refine blk_alloc ?_ _)); refine blk_put (cs := #[.int .i64 t357, .int .i64 0, .int .i64 0, .int .i64 0, .string (⟨#[]⟩ : ByteArray), .string (⟨#[]⟩ : ByteArray), .string (⟨#[]⟩ : ByteArray)]) ?_ 1 _ rfl; (with_reducible repeat (first | refine blk_drewN ?_ _ | refine blk_drew ?_ | refine blk_alloc ?_ _)); refine blk_put (cs := #[.int .i64 0, .int .i64 0, .int .i64 0, .int .i64 0, .string (⟨#[]⟩ : ByteArray), .string (⟨#[]⟩ : ByteArray), .string (⟨#[]⟩ : ByteArray)]) ?_ 0 _ rfl; (with_reducible repeat (first | refine blk_drewN ?_ _ | refine blk_drew ?_ | refine blk_alloc ?_ _)); exact BK368.out⟩, ⟨by repeat (first | (with_reducible first | exact HB.out | apply below_alloc | apply pw_below_drewN | apply below_drew1 | refine below_set ?_ GE354.out | refine below_set ?_ GE355.out | refine below_set ?_ GE368.out) | exact HB.out)⟩⟩
      · rw [if_neg c21] at H
        have c21b0 : decide (4 < a0_0) = false := decide_eq_false c21
        clear c21
        have H' := Aside0.mk H
        clear H
        have hnb25 := NB354_355.out
        have hnc25 := NB355_354.out
        have hnb26 := NB354_368.out
        have hnc26 := NB368_354.out
        have hcz27_0 : w13.cell? ⟨gb354, 0, none⟩ = some (.int .i64 a0_0) := (blk_cell BK354.out 0).trans rfl
        have hcz27_1 : w13.cell? ⟨gb354, 1, none⟩ = some (.int .i64 a0_1) := (blk_cell BK354.out 1).trans rfl
        have hcz27_2 : w13.cell? ⟨gb354, 2, none⟩ = some (.int .i64 a0_2) := (blk_cell BK354.out 2).trans rfl
        have hcz27_3 : w13.cell? ⟨gb354, 3, none⟩ = some (.int .i64 a0_3) := (blk_cell BK354.out 3).trans rfl
        have hcz27_4 : w13.cell? ⟨gb354, 4, none⟩ = some (.string a0_4) := (blk_cell BK354.out 4).trans rfl
        have hcz27_5 : w13.cell? ⟨gb354, 5, none⟩ = some (.string a0_5) := (blk_cell BK354.out 5).trans rfl
        have hcz27_6 : w13.cell? ⟨gb354, 6, none⟩ = some (.string a0_6) := (blk_cell BK354.out 6).trans rfl
        have hfz27_0 := blk_frozen BK354.out 0
        have hfz27_1 := blk_frozen BK354.out 1
        have hfz27_2 := blk_frozen BK354.out 2
        have hfz27_3 := blk_frozen BK354.out 3
        have hfz27_4 := blk_frozen BK354.out 4
        have hfz27_5 := blk_frozen BK354.out 5
        have hfz27_6 := blk_frozen BK354.out 6
        go_wp2
        go_meet
        case rel => exact ⟨_, ((t367 == 7)), (by first | rfl | (simp; done) | (simp [*]; done)), H', ⟨by first | omega | exact Nat.le_refl _⟩, ⟨by (with_reducible repeat (first | apply Kd.N_alloc | apply Kd.N_drewN | apply Kd.N_drew)); exact Kd.N_mono (Kd.N_far (p := ⟨gb368, 6, none⟩) (Kd.N_far (p := ⟨gb368, 5, none⟩) (Kd.N_far (p := ⟨gb368, 4, none⟩) (Kd.N_far (p := ⟨gb368, 3, none⟩) (Kd.N_far (p := ⟨gb368, 2, none⟩) (Kd.N_far (p := ⟨gb368, 1, none⟩) (Kd.N_far (p := ⟨gb368, 0, none⟩) (Kd.N_mono HO366.out (fun k_ hk => (⟨hk, hk.2⟩ : _ ∧ k_ ≠ gb368))) (fun _ hk => hk.2) (.int .i64 t357)) (fun _ hk => hk.2) (.int .i64 t358)) (fun _ hk => hk.2) (.int .i64 t359)) (fun _ hk => hk.2) (.int .i64 t360)) (fun _ hk => hk.2) (.string t361)) (fun _ hk => hk.2) (.string t362)) (fun _ hk => hk.2) (.string t363)) (fun _ hk => ⟨hk.1.1.1, ⟨hk.1.1.2, hk.1.2⟩⟩)⟩, ⟨by (with_reducible repeat (first | refine blk_drewN ?_ _ | refine blk_drew ?_ | refine blk_alloc ?_ _)); refine blk_far ?_ NB354_368.out _; (with_reducible repeat (first | refine blk_drewN ?_ _ | refine blk_drew ?_ | refine blk_alloc ?_ _)); refine blk_far ?_ NB354_368.out _; (with_reducible repeat (first | refine blk_drewN ?_ _ | refine blk_drew ?_ | refine blk_alloc ?_ _)); refine blk_far ?_ NB354_368.out _; (with_reducible repeat (first | refine blk_drewN ?_ _ | refine blk_drew ?_ | refine blk_alloc ?_ _)); refine blk_far ?_ NB354_368.out _; (with_reducible repeat (first | refine blk_drewN ?_ _ | refine blk_drew ?_ | refine blk_alloc ?_ _)); refine blk_far ?_ NB354_368.out _; (with_reducible repeat (first | refine blk_drewN ?_ _ | refine blk_drew ?_ | refine blk_alloc ?_ _)); refine blk_far ?_ NB354_368.out _; (with_reducible repeat (first | refine blk_drewN ?_ _ | refine blk_drew ?_ | refine blk_alloc ?_ _)); refine blk_far ?_ NB354_368.out _; (with_reducible repeat (first | refine blk_drewN ?_ _ | refine blk_drew ?_ | refine blk_alloc ?_ _)); exact BK354.out⟩, ⟨by (with_reducible repeat (first | refine blk_drewN ?_ _ | refine blk_drew ?_ | refine blk_alloc ?_ _)); refine blk_far ?_ NB355_368.out _; (with_reducible repeat (first | refine blk_drewN ?_ _ | refine blk_drew ?_ | refine blk_alloc ?_ _)); refine blk_far ?_ NB355_368.out _; (with_reducible repeat (first | refine blk_drewN ?_ _ | refine blk_drew ?_ | refine blk_alloc ?_ _)); refine blk_far ?_ NB355_368.out _; (with_reducible repeat (first | refine blk_drewN ?_ _ | refine blk_drew ?_ | refine blk_alloc ?_ _)); refine blk_far ?_ NB355_368.out _; (with_reducible repeat (first | refine blk_drewN ?_ _ | refine blk_drew ?_ | refine blk_alloc ?_ _)); refine blk_far ?_ NB355_368.out _; (with_reducible repeat (first | refine blk_drewN ?_ _ | refine blk_drew ?_ | refine blk_alloc ?_ _)); refine blk_far ?_ NB355_368.out _; (with_reducible repeat (first | refine blk_drewN ?_ _ | refine blk_drew ?_ | refine blk_alloc ?_ _)); refine blk_far ?_ NB355_368.out _; (with_reducible repeat (first | refine blk_drewN ?_ _ | refine blk_drew ?_ | refine blk_alloc ?_ _)); exact BK355.out⟩, ⟨by (with_reducible repeat (first | refine blk_drewN ?_ _ | refine blk_drew ?_ | refine blk_alloc ?_ _)); refine blk_put (cs := #[.int .i64 t357, .int .i64 t358, .int .i64 t359, .int .i64 t360, .string t361, .string t362, .string (⟨#[]⟩ : ByteArray)]) ?_ 6 _ rfl; (with_reducible repeat (first | refine blk_drewN ?_ _ | refine blk_drew ?_ | refine blk_alloc ?_ _)); refine blk_put (cs := #[.int .i64 t357, .int .i64 t358, .int .i64 t359, .int .i64 t360, .string t361, .string (⟨#[]⟩ : ByteArray), .string (⟨#[]⟩ : ByteArray)]) ?_ 5 _ rfl; (with_reducible repeat (first | refine blk_drewN ?_ _ | refine blk_drew ?_ | refine blk_alloc ?_ _)); refine blk_put (cs := #[.int .i64 t357, .int .i64 t358, .int .i64 t359, .int .i64 t360, .string (⟨#[]⟩ : ByteArray), .string (⟨#[]⟩ : ByteArray), .string (⟨#[]⟩ : ByteArray)]) ?_ 4 _ rfl; (with_reducible repeat (first | refine blk_drewN ?_ _ | refine blk_drew ?_ | refine blk_alloc ?_ _)); refine blk_put (cs := #[.int .i64 t357, .int .i64 t358, .int .i64 t359, .int .i64 0, .string (⟨#[]⟩ : ByteArray), .string (⟨#[]⟩ : ByteArray), .string (⟨#[]⟩ : ByteArray)]) ?_ 3 _ rfl; (with_reducible repeat (first | refine blk_drewN ?_ _ | refine blk_drew ?_ | refine blk_alloc ?_ _)); refine blk_put (cs := #[.int .i64 t357, .int .i64 t358, .int .i64 0, .int .i64 0, .string (⟨#[]⟩ : ByteArray), .string (⟨#[]⟩ : ByteArray), .string (⟨#[]⟩ : ByteArray)]) ?_ 2 _ rfl; (with_reducible repeat (first | refine blk_drewN ?_ _ | refine blk_drew ?_ | refine blk_alloc ?_ _)); refine blk_put (cs := #[.int .i64 t357, .int .i64 0, .int .i64 0, .int .i64 0, .string (⟨#[]⟩ : ByteArray), .string (⟨#[]⟩ : ByteArray), .string (⟨#[]⟩ : ByteArray)]) ?_ 1 _ rfl; (with_reducible repeat (first | refine blk_drewN ?_ _ | refine blk_drew ?_ | refine blk_alloc ?_ _)); refine blk_put (cs := #[.int .i64 0, .int .i64 0, .int .i64 0, .int .i64 0, .string (⟨#[]⟩ : ByteArray), .string (⟨#[]⟩ : ByteArray), .string (⟨#[]⟩ : ByteArray)]) ?_ 0 _ rfl; (with_reducible repeat (first | refine blk_drewN ?_ _ | refine blk_drew ?_ | refine blk_alloc ?_ _)); exact BK368.out⟩, ⟨by repeat (first | (with_reducible first | exact HB.out | apply below_alloc | apply pw_below_drewN | apply below_drew1 | refine below_set ?_ GE354.out | refine below_set ?_ GE355.out | refine below_set ?_ GE368.out) | exact HB.out)⟩⟩
  case rest =>
    clear HC5
    try clear c1
    try clear c2
    try clear p2
    try clear c6
    try clear c9
    try clear c14
    try clear c15
    try clear c17
    try clear c17b0
    try clear c18
    try clear c19
    try clear c21
    try clear c21b0
    try clear c22
    try clear c23
    try clear c24
    try clear c25
    try clear c26
    try clear hcz10_0
    try clear hcz10_1
    try clear hcz10_2
    try clear hcz10_3
    try clear hcz10_4
    try clear hcz10_5
    try clear hcz10_6
    try clear hcz11_0
    try clear hcz11_1
    try clear hcz11_2
    try clear hcz16_0
    try clear hcz16_1
    try clear hcz16_2
    try clear hcz16_3
    try clear hcz16_4
    try clear hcz16_5
    try clear hcz16_6
    try clear hcz20_0
    try clear hcz20_1
    try clear hcz20_2
    try clear hcz20_3
    try clear hcz20_4
    try clear hcz20_5
    try clear hcz20_6
    try clear hcz24_0
    try clear hcz24_1
    try clear hcz24_2
    try clear hcz24_3
    try clear hcz24_4
    try clear hcz24_5
    try clear hcz24_6
    try clear hcz27_0
    try clear hcz27_1
    try clear hcz27_2
    try clear hcz27_3
    try clear hcz27_4
    try clear hcz27_5
    try clear hcz27_6
    try clear hfz10_0
    try clear hfz10_1
    try clear hfz10_2
    try clear hfz10_3
    try clear hfz10_4
    try clear hfz10_5
    try clear hfz10_6
    try clear hfz11_0
    try clear hfz11_1
    try clear hfz11_2
    try clear hfz16_0
    try clear hfz16_1
    try clear hfz16_2
    try clear hfz16_3
    try clear hfz16_4
    try clear hfz16_5
    try clear hfz16_6
    try clear hfz20_0
    try clear hfz20_1
    try clear hfz20_2
    try clear hfz20_3
    try clear hfz20_4
    try clear hfz20_5
    try clear hfz20_6
    try clear hfz24_0
    try clear hfz24_1
    try clear hfz24_2
    try clear hfz24_3
    try clear hfz24_4
    try clear hfz24_5
    try clear hfz24_6
    try clear hfz27_0
    try clear hfz27_1
    try clear hfz27_2
    try clear hfz27_3
    try clear hfz27_4
    try clear hfz27_5
    try clear hfz27_6
    obtain ⟨kq, x28_4, rfl, HA, HJ4, HO_7, BK354, BK355, BK368, HB⟩ := hcut
    cases kq with
    | zero => exact absurd HA.out (by simp [interchangelaw10_ServeWrong.j0])
    | succ kj4 =>
      have H := HA.out
      clear HA
      simp only [interchangelaw10_ServeWrong.j0] at H
      by_cases c28 : x28_4 = true
      · subst c28
        have H1 : (some t356) = some r := by rw [if_pos rfl] at H; exact H
        clear H
        have H := H1
        clear H1
        obtain rfl := Option.some.inj H
        go_wp2
        go_ret
        exact ⟨by first | rfl | (simp [errW_none, errW_some] <;> rfl) | (simp [*, errW_none, errW_some] <;> rfl), by repeat (first | (with_reducible first | exact HB.out | apply below_alloc | apply pw_below_drewN | apply below_drew1 | refine below_set ?_ GE354.out | refine below_set ?_ GE355.out | refine below_set ?_ GE368.out) | exact HB.out)⟩
      · replace c28 := Bool.eq_false_iff.mpr c28
        subst c28
        have H1 : (if a1_0 = 10 then (if a1_1 = 50 then (if t356 = true then (if t367 = 0 then (if t357 = 6 then (if (t364.length : Int) = 1 then (if 0 < (t364.length : Int) then (some (((rd_T24 t364 0).f1) == 51)) else (none)) else (some false)) else (some false)) else (some false)) else (some false)) else (if a0_0 = 4 then (if t356 = true then (if t367 = 8 then (some (t357 == a0_0 && ((t358 == a0_1 && (t359 == a0_2 && (t360 == a0_3))) && (t361.toList == a0_4.toList && (t362.toList == a0_5.toList && (t363.toList == a0_6.toList)))))) else (some false)) else (some false)) else (if t356 = true then (if t367 = 0 then (if t357 = (wrap64 (a0_0 + 1)) then (some true) else (some false)) else (some (t357 == a0_0 && ((t358 == a0_1 && (t359 == a0_2 && (t360 == a0_3))) && (t361.toList == a0_4.toList && (t362.toList == a0_5.toList && (t363.toList == a0_6.toList))))))) else (some false)))) else (if t356 = true then (if t367 = 8 then (if (t357 == a0_0 && ((t358 == a0_1 && (t359 == a0_2 && (t360 == a0_3))) && (t361.toList == a0_4.toList && (t362.toList == a0_5.toList && (t363.toList == a0_6.toList))))) = true then (some ((t364.length : Int) == 0)) else (some false)) else (some false)) else (some false))) = some r := by rw [if_neg (show ¬ (false = true) by decide)] at H; exact H
        clear H
        have H := H1
        clear H1
        by_cases c29 : a1_0 = 10
        · rw [if_pos c29] at H
          have c29b0 : (a1_0 == 10) = true := beq_iff_eq.mpr c29
          have c29b1 : (a1_0 != 10) = false := bne_eq_false_iff_eq.mpr c29
          clear c29
          by_cases c30 : a1_1 = 50
          · rw [if_pos c30] at H
            have c30b0 : (a1_1 == 50) = true := beq_iff_eq.mpr c30
            have c30b1 : (a1_1 != 50) = false := bne_eq_false_iff_eq.mpr c30
            clear c30
            by_cases c31 : t356 = true
            · subst c31
              have H1 : (if t367 = 0 then (if t357 = 6 then (if (t364.length : Int) = 1 then (if 0 < (t364.length : Int) then (some (((rd_T24 t364 0).f1) == 51)) else (none)) else (some false)) else (some false)) else (some false)) = some r := by rw [if_pos rfl] at H; exact H
              clear H
              have H := H1
              clear H1
              by_cases c32 : t367 = 0
              · rw [if_pos c32] at H
                have c32b0 : (t367 == 0) = true := beq_iff_eq.mpr c32
                have c32b1 : (t367 != 0) = false := bne_eq_false_iff_eq.mpr c32
                clear c32
                by_cases c33 : t357 = 6
                · rw [if_pos c33] at H
                  have c33b0 : (t357 == 6) = true := beq_iff_eq.mpr c33
                  have c33b1 : (t357 != 6) = false := bne_eq_false_iff_eq.mpr c33
                  clear c33
                  by_cases c34 : (t364.length : Int) = 1
                  · rw [if_pos c34] at H
                    have c34b0 : ((t364.length : Int) == 1) = true := beq_iff_eq.mpr c34
                    have c34b1 : ((t364.length : Int) != 1) = false := bne_eq_false_iff_eq.mpr c34
                    clear c34
                    by_cases c35 : 0 < (t364.length : Int)
                    · rw [if_pos c35] at H
                      have c35b0 : decide (0 < (t364.length : Int)) = true := decide_eq_true c35
                      have c35b1 : decide (0 < t364.length) = true := decide_eq_true (by omega)
                      clear c35
                      obtain rfl := Option.some.inj H
                      have hnb36 := NB355_354.out
                      have hnc36 := NB354_355.out
                      have hnb37 := NB355_368.out
                      have hnc37 := NB368_355.out
                      have hcz38_0 : wc.cell? ⟨gb355, 0, none⟩ = some (.int .i64 a1_0) := (blk_cell BK355.out 0).trans rfl
                      have hcz38_1 : wc.cell? ⟨gb355, 1, none⟩ = some (.int .i64 a1_1) := (blk_cell BK355.out 1).trans rfl
                      have hcz38_2 : wc.cell? ⟨gb355, 2, none⟩ = some (.slice A1_2 l1_2.length c1_2) := (blk_cell BK355.out 2).trans rfl
                      have hfz38_0 := blk_frozen BK355.out 0
                      have hfz38_1 := blk_frozen BK355.out 1
                      have hfz38_2 := blk_frozen BK355.out 2
                      have hnb39 := NB368_354.out
                      have hnc39 := NB354_368.out
                      have hcz40_0 : wc.cell? ⟨gb368, 0, none⟩ = some (.int .i64 t357) := (blk_cell BK368.out 0).trans rfl
                      have hcz40_1 : wc.cell? ⟨gb368, 1, none⟩ = some (.int .i64 t358) := (blk_cell BK368.out 1).trans rfl
                      have hcz40_2 : wc.cell? ⟨gb368, 2, none⟩ = some (.int .i64 t359) := (blk_cell BK368.out 2).trans rfl
                      have hcz40_3 : wc.cell? ⟨gb368, 3, none⟩ = some (.int .i64 t360) := (blk_cell BK368.out 3).trans rfl
                      have hcz40_4 : wc.cell? ⟨gb368, 4, none⟩ = some (.string t361) := (blk_cell BK368.out 4).trans rfl
                      have hcz40_5 : wc.cell? ⟨gb368, 5, none⟩ = some (.string t362) := (blk_cell BK368.out 5).trans rfl
                      have hcz40_6 : wc.cell? ⟨gb368, 6, none⟩ = some (.string t363) := (blk_cell BK368.out 6).trans rfl
                      have hfz40_0 := blk_frozen BK368.out 0
                      have hfz40_1 := blk_frozen BK368.out 1
                      have hfz40_2 := blk_frozen BK368.out 2
                      have hfz40_3 := blk_frozen BK368.out 3
                      have hfz40_4 := blk_frozen BK368.out 4
                      have hfz40_5 := blk_frozen BK368.out 5
                      have hfz40_6 := blk_frozen BK368.out 6
                      obtain ⟨Ao41, co41, eo41⟩ := Kd.N_slice HO_7.out
                      subst eo41
                      have p369 : 0 ≤ (0 : Int) := (by omega)
                      have q369 : 0 < (t364.length : Int) := of_decide_eq_true (by first | (with_reducible assumption) | assumption)
                      obtain ⟨ad369, A369_2, c369_2, e369, hx369_0, hx369_1, hx369_2, hl369_2, hi369_2⟩ := at_T24 (Kd.N_reads' HO_7.out).2.2 0 p369 q369
                      cases e369
                      obtain ⟨ce369, hce369, hMe369, hcc369⟩ := Kd.N_get HO_7.out z24 0 p369 (by first | exact q369 | exact of_decide_eq_true (by first | (with_reducible assumption) | assumption) | (have e_ := (Kd.N_reads' HO_7.out).1; omega))
                      obtain ⟨ua369_2, uc369_2, rfl, ul369_2, ge369_2⟩ := k24_openF hMe369
                      have hv369_2 := hcc369 2 _ rfl
                      rw [add_field _ _ 2 (by omega)] at hv369_2
                      replace hv369_2 := Option.some.inj (hv369_2.symm.trans hx369_2)
                      injection hv369_2 with hva_ hvn_ hvc_
                      rw [hva_] at ge369_2
                      rw [hvc_] at ul369_2
                      have HL369_2 := Aside0.mk (show Kd.V k56 56 _ w.heap.size _ _ ((rd_T24 t364 0).f2) from Kd.V_mk ul369_2 ge369_2)
                      clear hva_ hvn_ hvc_ ge369_2 ul369_2
                      clear hcc369 hce369
                      have qi369 : (0 < t364.length) = True := eq_true (by omega)
                      (try rw [show ((0 : Int)).toNat = 0 from rfl] at hx369_0)
                      (try rw [show 0 * 3 = 0 from rfl] at hx369_0)
                      (try rw [Addr.add_zero'] at hx369_0)
                      (try rw [show ((0 : Int)).toNat = 0 from rfl] at hx369_1)
                      (try rw [show 0 * 3 = 0 from rfl] at hx369_1)
                      (try rw [Addr.add_zero'] at hx369_1)
                      (try rw [show ((0 : Int)).toNat = 0 from rfl] at hx369_2)
                      (try rw [show 0 * 3 = 0 from rfl] at hx369_2)
                      (try rw [Addr.add_zero'] at hx369_2)
                      have HR369_2 := Aside0.mk hi369_2
                      have HC369_2 := Aside0.mk hl369_2
                      clear hi369_2 hl369_2
                      replace p369 := eq_true p369
                      replace q369 := eq_true q369
                      go_wp2
                      go_ret
                      exact ⟨by first | rfl | (simp [errW_none, errW_some] <;> rfl) | (simp [*, errW_none, errW_some] <;> rfl), by repeat (first | (with_reducible first | exact HB.out | apply below_alloc | apply pw_below_drewN | apply below_drew1 | refine below_set ?_ GE354.out | refine below_set ?_ GE355.out | refine below_set ?_ GE368.out) | exact HB.out)⟩
                    · rw [if_neg c35] at H
                      exact absurd H (by simp)
                  · rw [if_neg c34] at H
                    have c34b0 : ((t364.length : Int) == 1) = false := beq_eq_false_iff_ne.mpr c34
                    have c34b1 : ((t364.length : Int) != 1) = true := bne_iff_ne.mpr c34
                    obtain rfl := Option.some.inj H
                    have hnb42 := NB355_354.out
                    have hnc42 := NB354_355.out
                    have hnb43 := NB355_368.out
                    have hnc43 := NB368_355.out
                    have hcz44_0 : wc.cell? ⟨gb355, 0, none⟩ = some (.int .i64 a1_0) := (blk_cell BK355.out 0).trans rfl
                    have hcz44_1 : wc.cell? ⟨gb355, 1, none⟩ = some (.int .i64 a1_1) := (blk_cell BK355.out 1).trans rfl
                    have hcz44_2 : wc.cell? ⟨gb355, 2, none⟩ = some (.slice A1_2 l1_2.length c1_2) := (blk_cell BK355.out 2).trans rfl
                    have hfz44_0 := blk_frozen BK355.out 0
                    have hfz44_1 := blk_frozen BK355.out 1
                    have hfz44_2 := blk_frozen BK355.out 2
                    have hnb45 := NB368_354.out
                    have hnc45 := NB354_368.out
                    have hcz46_0 : wc.cell? ⟨gb368, 0, none⟩ = some (.int .i64 t357) := (blk_cell BK368.out 0).trans rfl
                    have hcz46_1 : wc.cell? ⟨gb368, 1, none⟩ = some (.int .i64 t358) := (blk_cell BK368.out 1).trans rfl
                    have hcz46_2 : wc.cell? ⟨gb368, 2, none⟩ = some (.int .i64 t359) := (blk_cell BK368.out 2).trans rfl
                    have hcz46_3 : wc.cell? ⟨gb368, 3, none⟩ = some (.int .i64 t360) := (blk_cell BK368.out 3).trans rfl
                    have hcz46_4 : wc.cell? ⟨gb368, 4, none⟩ = some (.string t361) := (blk_cell BK368.out 4).trans rfl
                    have hcz46_5 : wc.cell? ⟨gb368, 5, none⟩ = some (.string t362) := (blk_cell BK368.out 5).trans rfl
                    have hcz46_6 : wc.cell? ⟨gb368, 6, none⟩ = some (.string t363) := (blk_cell BK368.out 6).trans rfl
                    have hfz46_0 := blk_frozen BK368.out 0
                    have hfz46_1 := blk_frozen BK368.out 1
                    have hfz46_2 := blk_frozen BK368.out 2
                    have hfz46_3 := blk_frozen BK368.out 3
                    have hfz46_4 := blk_frozen BK368.out 4
                    have hfz46_5 := blk_frozen BK368.out 5
                    have hfz46_6 := blk_frozen BK368.out 6
                    obtain ⟨Ao47, co47, eo47⟩ := Kd.N_slice HO_7.out
                    subst eo47
                    go_wp2
                    go_ret
                    exact ⟨by first | rfl | (simp [errW_none, errW_some] <;> rfl) | (simp [*, errW_none, errW_some] <;> rfl), by repeat (first | (with_reducible first | exact HB.out | apply below_alloc | apply pw_below_drewN | apply below_drew1 | refine below_set ?_ GE354.out | refine below_set ?_ GE355.out | refine below_set ?_ GE368.out) | exact HB.out)⟩
                · rw [if_neg c33] at H
                  have c33b0 : (t357 == 6) = false := beq_eq_false_iff_ne.mpr c33
                  have c33b1 : (t357 != 6) = true := bne_iff_ne.mpr c33
                  obtain rfl := Option.some.inj H
                  have hnb48 := NB355_354.out
                  have hnc48 := NB354_355.out
                  have hnb49 := NB355_368.out
                  have hnc49 := NB368_355.out
                  have hcz50_0 : wc.cell? ⟨gb355, 0, none⟩ = some (.int .i64 a1_0) := (blk_cell BK355.out 0).trans rfl
                  have hcz50_1 : wc.cell? ⟨gb355, 1, none⟩ = some (.int .i64 a1_1) := (blk_cell BK355.out 1).trans rfl
                  have hcz50_2 : wc.cell? ⟨gb355, 2, none⟩ = some (.slice A1_2 l1_2.length c1_2) := (blk_cell BK355.out 2).trans rfl
                  have hfz50_0 := blk_frozen BK355.out 0
                  have hfz50_1 := blk_frozen BK355.out 1
                  have hfz50_2 := blk_frozen BK355.out 2
                  have hnb51 := NB368_354.out
                  have hnc51 := NB354_368.out
                  have hcz52_0 : wc.cell? ⟨gb368, 0, none⟩ = some (.int .i64 t357) := (blk_cell BK368.out 0).trans rfl
                  have hcz52_1 : wc.cell? ⟨gb368, 1, none⟩ = some (.int .i64 t358) := (blk_cell BK368.out 1).trans rfl
                  have hcz52_2 : wc.cell? ⟨gb368, 2, none⟩ = some (.int .i64 t359) := (blk_cell BK368.out 2).trans rfl
                  have hcz52_3 : wc.cell? ⟨gb368, 3, none⟩ = some (.int .i64 t360) := (blk_cell BK368.out 3).trans rfl
                  have hcz52_4 : wc.cell? ⟨gb368, 4, none⟩ = some (.string t361) := (blk_cell BK368.out 4).trans rfl
                  have hcz52_5 : wc.cell? ⟨gb368, 5, none⟩ = some (.string t362) := (blk_cell BK368.out 5).trans rfl
                  have hcz52_6 : wc.cell? ⟨gb368, 6, none⟩ = some (.string t363) := (blk_cell BK368.out 6).trans rfl
                  have hfz52_0 := blk_frozen BK368.out 0
                  have hfz52_1 := blk_frozen BK368.out 1
                  have hfz52_2 := blk_frozen BK368.out 2
                  have hfz52_3 := blk_frozen BK368.out 3
                  have hfz52_4 := blk_frozen BK368.out 4
                  have hfz52_5 := blk_frozen BK368.out 5
                  have hfz52_6 := blk_frozen BK368.out 6
                  go_wp2
                  go_ret
                  exact ⟨by first | rfl | (simp [errW_none, errW_some] <;> rfl) | (simp [*, errW_none, errW_some] <;> rfl), by repeat (first | (with_reducible first | exact HB.out | apply below_alloc | apply pw_below_drewN | apply below_drew1 | refine below_set ?_ GE354.out | refine below_set ?_ GE355.out | refine below_set ?_ GE368.out) | exact HB.out)⟩
              · rw [if_neg c32] at H
                have c32b0 : (t367 == 0) = false := beq_eq_false_iff_ne.mpr c32
                have c32b1 : (t367 != 0) = true := bne_iff_ne.mpr c32
                obtain rfl := Option.some.inj H
                have hnb53 := NB355_354.out
                have hnc53 := NB354_355.out
                have hnb54 := NB355_368.out
                have hnc54 := NB368_355.out
                have hcz55_0 : wc.cell? ⟨gb355, 0, none⟩ = some (.int .i64 a1_0) := (blk_cell BK355.out 0).trans rfl
                have hcz55_1 : wc.cell? ⟨gb355, 1, none⟩ = some (.int .i64 a1_1) := (blk_cell BK355.out 1).trans rfl
                have hcz55_2 : wc.cell? ⟨gb355, 2, none⟩ = some (.slice A1_2 l1_2.length c1_2) := (blk_cell BK355.out 2).trans rfl
                have hfz55_0 := blk_frozen BK355.out 0
                have hfz55_1 := blk_frozen BK355.out 1
                have hfz55_2 := blk_frozen BK355.out 2
                go_wp2
                go_ret
                exact ⟨by first | rfl | (simp [errW_none, errW_some] <;> rfl) | (simp [*, errW_none, errW_some] <;> rfl), by repeat (first | (with_reducible first | exact HB.out | apply below_alloc | apply pw_below_drewN | apply below_drew1 | refine below_set ?_ GE354.out | refine below_set ?_ GE355.out | refine below_set ?_ GE368.out) | exact HB.out)⟩
            · replace c31 := Bool.eq_false_iff.mpr c31
              subst c31
              have H1 : (some false) = some r := by rw [if_neg (show ¬ (false = true) by decide)] at H; exact H
              clear H
              have H := H1
              clear H1
              obtain rfl := Option.some.inj H
              have hnb56 := NB355_354.out
              have hnc56 := NB354_355.out
              have hnb57 := NB355_368.out
              have hnc57 := NB368_355.out
              have hcz58_0 : wc.cell? ⟨gb355, 0, none⟩ = some (.int .i64 a1_0) := (blk_cell BK355.out 0).trans rfl
              have hcz58_1 : wc.cell? ⟨gb355, 1, none⟩ = some (.int .i64 a1_1) := (blk_cell BK355.out 1).trans rfl
              have hcz58_2 : wc.cell? ⟨gb355, 2, none⟩ = some (.slice A1_2 l1_2.length c1_2) := (blk_cell BK355.out 2).trans rfl
              have hfz58_0 := blk_frozen BK355.out 0
              have hfz58_1 := blk_frozen BK355.out 1
              have hfz58_2 := blk_frozen BK355.out 2
              go_wp2
              go_ret
              exact ⟨by first | rfl | (simp [errW_none, errW_some] <;> rfl) | (simp [*, errW_none, errW_some] <;> rfl), by repeat (first | (with_reducible first | exact HB.out | apply below_alloc | apply pw_below_drewN | apply below_drew1 | refine below_set ?_ GE354.out | refine below_set ?_ GE355.out | refine below_set ?_ GE368.out) | exact HB.out)⟩
          · rw [if_neg c30] at H
            have c30b0 : (a1_1 == 50) = false := beq_eq_false_iff_ne.mpr c30
            have c30b1 : (a1_1 != 50) = true := bne_iff_ne.mpr c30
            by_cases c59 : a0_0 = 4
            · rw [if_pos c59] at H
              have c59b0 : (a0_0 == 4) = true := beq_iff_eq.mpr c59
              have c59b1 : (a0_0 != 4) = false := bne_eq_false_iff_eq.mpr c59
              clear c59
              by_cases c60 : t356 = true
              · subst c60
                have H1 : (if t367 = 8 then (some (t357 == a0_0 && ((t358 == a0_1 && (t359 == a0_2 && (t360 == a0_3))) && (t361.toList == a0_4.toList && (t362.toList == a0_5.toList && (t363.toList == a0_6.toList)))))) else (some false)) = some r := by rw [if_pos rfl] at H; exact H
                clear H
                have H := H1
                clear H1
                by_cases c61 : t367 = 8
                · rw [if_pos c61] at H
                  have c61b0 : (t367 == 8) = true := beq_iff_eq.mpr c61
                  have c61b1 : (t367 != 8) = false := bne_eq_false_iff_eq.mpr c61
                  clear c61
                  obtain rfl := Option.some.inj H
                  have hnb62 := NB355_354.out
                  have hnc62 := NB354_355.out
                  have hnb63 := NB355_368.out
                  have hnc63 := NB368_355.out
                  have hcz64_0 : wc.cell? ⟨gb355, 0, none⟩ = some (.int .i64 a1_0) := (blk_cell BK355.out 0).trans rfl
                  have hcz64_1 : wc.cell? ⟨gb355, 1, none⟩ = some (.int .i64 a1_1) := (blk_cell BK355.out 1).trans rfl
                  have hcz64_2 : wc.cell? ⟨gb355, 2, none⟩ = some (.slice A1_2 l1_2.length c1_2) := (blk_cell BK355.out 2).trans rfl
                  have hfz64_0 := blk_frozen BK355.out 0
                  have hfz64_1 := blk_frozen BK355.out 1
                  have hfz64_2 := blk_frozen BK355.out 2
                  have hnb65 := NB354_368.out
                  have hnc65 := NB368_354.out
                  have hcz66_0 : wc.cell? ⟨gb354, 0, none⟩ = some (.int .i64 a0_0) := (blk_cell BK354.out 0).trans rfl
                  have hcz66_1 : wc.cell? ⟨gb354, 1, none⟩ = some (.int .i64 a0_1) := (blk_cell BK354.out 1).trans rfl
                  have hcz66_2 : wc.cell? ⟨gb354, 2, none⟩ = some (.int .i64 a0_2) := (blk_cell BK354.out 2).trans rfl
                  have hcz66_3 : wc.cell? ⟨gb354, 3, none⟩ = some (.int .i64 a0_3) := (blk_cell BK354.out 3).trans rfl
                  have hcz66_4 : wc.cell? ⟨gb354, 4, none⟩ = some (.string a0_4) := (blk_cell BK354.out 4).trans rfl
                  have hcz66_5 : wc.cell? ⟨gb354, 5, none⟩ = some (.string a0_5) := (blk_cell BK354.out 5).trans rfl
                  have hcz66_6 : wc.cell? ⟨gb354, 6, none⟩ = some (.string a0_6) := (blk_cell BK354.out 6).trans rfl
                  have hfz66_0 := blk_frozen BK354.out 0
                  have hfz66_1 := blk_frozen BK354.out 1
                  have hfz66_2 := blk_frozen BK354.out 2
                  have hfz66_3 := blk_frozen BK354.out 3
                  have hfz66_4 := blk_frozen BK354.out 4
                  have hfz66_5 := blk_frozen BK354.out 5
                  have hfz66_6 := blk_frozen BK354.out 6
                  have hcz67_0 : wc.cell? ⟨gb368, 0, none⟩ = some (.int .i64 t357) := (blk_cell BK368.out 0).trans rfl
                  have hcz67_1 : wc.cell? ⟨gb368, 1, none⟩ = some (.int .i64 t358) := (blk_cell BK368.out 1).trans rfl
                  have hcz67_2 : wc.cell? ⟨gb368, 2, none⟩ = some (.int .i64 t359) := (blk_cell BK368.out 2).trans rfl
                  have hcz67_3 : wc.cell? ⟨gb368, 3, none⟩ = some (.int .i64 t360) := (blk_cell BK368.out 3).trans rfl
                  have hcz67_4 : wc.cell? ⟨gb368, 4, none⟩ = some (.string t361) := (blk_cell BK368.out 4).trans rfl
                  have hcz67_5 : wc.cell? ⟨gb368, 5, none⟩ = some (.string t362) := (blk_cell BK368.out 5).trans rfl
                  have hcz67_6 : wc.cell? ⟨gb368, 6, none⟩ = some (.string t363) := (blk_cell BK368.out 6).trans rfl
                  have hfz67_0 := blk_frozen BK368.out 0
                  have hfz67_1 := blk_frozen BK368.out 1
                  have hfz67_2 := blk_frozen BK368.out 2
                  have hfz67_3 := blk_frozen BK368.out 3
                  have hfz67_4 := blk_frozen BK368.out 4
                  have hfz67_5 := blk_frozen BK368.out 5
                  have hfz67_6 := blk_frozen BK368.out 6
                  go_wp2
                  go_ret
                  exact ⟨by first | rfl | (simp [errW_none, errW_some] <;> rfl) | (simp [*, errW_none, errW_some] <;> rfl), by repeat (first | (with_reducible first | exact HB.out | apply below_alloc | apply pw_below_drewN | apply below_drew1 | refine below_set ?_ GE354.out | refine below_set ?_ GE355.out | refine below_set ?_ GE368.out) | exact HB.out)⟩
                · rw [if_neg c61] at H
                  have c61b0 : (t367 == 8) = false := beq_eq_false_iff_ne.mpr c61
                  have c61b1 : (t367 != 8) = true := bne_iff_ne.mpr c61
                  obtain rfl := Option.some.inj H
                  have hnb68 := NB355_354.out
                  have hnc68 := NB354_355.out
                  have hnb69 := NB355_368.out
                  have hnc69 := NB368_355.out
                  have hcz70_0 : wc.cell? ⟨gb355, 0, none⟩ = some (.int .i64 a1_0) := (blk_cell BK355.out 0).trans rfl
                  have hcz70_1 : wc.cell? ⟨gb355, 1, none⟩ = some (.int .i64 a1_1) := (blk_cell BK355.out 1).trans rfl
                  have hcz70_2 : wc.cell? ⟨gb355, 2, none⟩ = some (.slice A1_2 l1_2.length c1_2) := (blk_cell BK355.out 2).trans rfl
                  have hfz70_0 := blk_frozen BK355.out 0
                  have hfz70_1 := blk_frozen BK355.out 1
                  have hfz70_2 := blk_frozen BK355.out 2
                  have hnb71 := NB354_368.out
                  have hnc71 := NB368_354.out
                  have hcz72_0 : wc.cell? ⟨gb354, 0, none⟩ = some (.int .i64 a0_0) := (blk_cell BK354.out 0).trans rfl
                  have hcz72_1 : wc.cell? ⟨gb354, 1, none⟩ = some (.int .i64 a0_1) := (blk_cell BK354.out 1).trans rfl
                  have hcz72_2 : wc.cell? ⟨gb354, 2, none⟩ = some (.int .i64 a0_2) := (blk_cell BK354.out 2).trans rfl
                  have hcz72_3 : wc.cell? ⟨gb354, 3, none⟩ = some (.int .i64 a0_3) := (blk_cell BK354.out 3).trans rfl
                  have hcz72_4 : wc.cell? ⟨gb354, 4, none⟩ = some (.string a0_4) := (blk_cell BK354.out 4).trans rfl
                  have hcz72_5 : wc.cell? ⟨gb354, 5, none⟩ = some (.string a0_5) := (blk_cell BK354.out 5).trans rfl
                  have hcz72_6 : wc.cell? ⟨gb354, 6, none⟩ = some (.string a0_6) := (blk_cell BK354.out 6).trans rfl
                  have hfz72_0 := blk_frozen BK354.out 0
                  have hfz72_1 := blk_frozen BK354.out 1
                  have hfz72_2 := blk_frozen BK354.out 2
                  have hfz72_3 := blk_frozen BK354.out 3
                  have hfz72_4 := blk_frozen BK354.out 4
                  have hfz72_5 := blk_frozen BK354.out 5
                  have hfz72_6 := blk_frozen BK354.out 6
                  go_wp2
                  go_ret
                  exact ⟨by first | rfl | (simp [errW_none, errW_some] <;> rfl) | (simp [*, errW_none, errW_some] <;> rfl), by repeat (first | (with_reducible first | exact HB.out | apply below_alloc | apply pw_below_drewN | apply below_drew1 | refine below_set ?_ GE354.out | refine below_set ?_ GE355.out | refine below_set ?_ GE368.out) | exact HB.out)⟩
              · replace c60 := Bool.eq_false_iff.mpr c60
                subst c60
                have H1 : (some false) = some r := by rw [if_neg (show ¬ (false = true) by decide)] at H; exact H
                clear H
                have H := H1
                clear H1
                obtain rfl := Option.some.inj H
                have hnb73 := NB355_354.out
                have hnc73 := NB354_355.out
                have hnb74 := NB355_368.out
                have hnc74 := NB368_355.out
                have hcz75_0 : wc.cell? ⟨gb355, 0, none⟩ = some (.int .i64 a1_0) := (blk_cell BK355.out 0).trans rfl
                have hcz75_1 : wc.cell? ⟨gb355, 1, none⟩ = some (.int .i64 a1_1) := (blk_cell BK355.out 1).trans rfl
                have hcz75_2 : wc.cell? ⟨gb355, 2, none⟩ = some (.slice A1_2 l1_2.length c1_2) := (blk_cell BK355.out 2).trans rfl
                have hfz75_0 := blk_frozen BK355.out 0
                have hfz75_1 := blk_frozen BK355.out 1
                have hfz75_2 := blk_frozen BK355.out 2
                have hnb76 := NB354_368.out
                have hnc76 := NB368_354.out
                have hcz77_0 : wc.cell? ⟨gb354, 0, none⟩ = some (.int .i64 a0_0) := (blk_cell BK354.out 0).trans rfl
                have hcz77_1 : wc.cell? ⟨gb354, 1, none⟩ = some (.int .i64 a0_1) := (blk_cell BK354.out 1).trans rfl
                have hcz77_2 : wc.cell? ⟨gb354, 2, none⟩ = some (.int .i64 a0_2) := (blk_cell BK354.out 2).trans rfl
                have hcz77_3 : wc.cell? ⟨gb354, 3, none⟩ = some (.int .i64 a0_3) := (blk_cell BK354.out 3).trans rfl
                have hcz77_4 : wc.cell? ⟨gb354, 4, none⟩ = some (.string a0_4) := (blk_cell BK354.out 4).trans rfl
                have hcz77_5 : wc.cell? ⟨gb354, 5, none⟩ = some (.string a0_5) := (blk_cell BK354.out 5).trans rfl
                have hcz77_6 : wc.cell? ⟨gb354, 6, none⟩ = some (.string a0_6) := (blk_cell BK354.out 6).trans rfl
                have hfz77_0 := blk_frozen BK354.out 0
                have hfz77_1 := blk_frozen BK354.out 1
                have hfz77_2 := blk_frozen BK354.out 2
                have hfz77_3 := blk_frozen BK354.out 3
                have hfz77_4 := blk_frozen BK354.out 4
                have hfz77_5 := blk_frozen BK354.out 5
                have hfz77_6 := blk_frozen BK354.out 6
                go_wp2
                go_ret
                exact ⟨by first | rfl | (simp [errW_none, errW_some] <;> rfl) | (simp [*, errW_none, errW_some] <;> rfl), by repeat (first | (with_reducible first | exact HB.out | apply below_alloc | apply pw_below_drewN | apply below_drew1 | refine below_set ?_ GE354.out | refine below_set ?_ GE355.out | refine below_set ?_ GE368.out) | exact HB.out)⟩
            · rw [if_neg c59] at H
              have c59b0 : (a0_0 == 4) = false := beq_eq_false_iff_ne.mpr c59
              have c59b1 : (a0_0 != 4) = true := bne_iff_ne.mpr c59
              by_cases c78 : t356 = true
              · subst c78
                have H1 : (if t367 = 0 then (if t357 = (wrap64 (a0_0 + 1)) then (some true) else (some false)) else (some (t357 == a0_0 && ((t358 == a0_1 && (t359 == a0_2 && (t360 == a0_3))) && (t361.toList == a0_4.toList && (t362.toList == a0_5.toList && (t363.toList == a0_6.toList))))))) = some r := by rw [if_pos rfl] at H; exact H
                clear H
                have H := H1
                clear H1
                by_cases c79 : t367 = 0
                · rw [if_pos c79] at H
                  have c79b0 : (t367 == 0) = true := beq_iff_eq.mpr c79
                  have c79b1 : (t367 != 0) = false := bne_eq_false_iff_eq.mpr c79
                  clear c79
                  by_cases c80 : t357 = (wrap64 (a0_0 + 1))
                  · rw [if_pos c80] at H
                    have c80b0 : (t357 == (wrap64 (a0_0 + 1))) = true := beq_iff_eq.mpr c80
                    have c80b1 : (t357 != (wrap64 (a0_0 + 1))) = false := bne_eq_false_iff_eq.mpr c80
                    clear c80
                    obtain rfl := Option.some.inj H
                    have hnb81 := NB355_354.out
                    have hnc81 := NB354_355.out
                    have hnb82 := NB355_368.out
                    have hnc82 := NB368_355.out
                    have hcz83_0 : wc.cell? ⟨gb355, 0, none⟩ = some (.int .i64 a1_0) := (blk_cell BK355.out 0).trans rfl
                    have hcz83_1 : wc.cell? ⟨gb355, 1, none⟩ = some (.int .i64 a1_1) := (blk_cell BK355.out 1).trans rfl
                    have hcz83_2 : wc.cell? ⟨gb355, 2, none⟩ = some (.slice A1_2 l1_2.length c1_2) := (blk_cell BK355.out 2).trans rfl
                    have hfz83_0 := blk_frozen BK355.out 0
                    have hfz83_1 := blk_frozen BK355.out 1
                    have hfz83_2 := blk_frozen BK355.out 2
                    have hnb84 := NB354_368.out
                    have hnc84 := NB368_354.out
                    have hcz85_0 : wc.cell? ⟨gb354, 0, none⟩ = some (.int .i64 a0_0) := (blk_cell BK354.out 0).trans rfl
                    have hcz85_1 : wc.cell? ⟨gb354, 1, none⟩ = some (.int .i64 a0_1) := (blk_cell BK354.out 1).trans rfl
                    have hcz85_2 : wc.cell? ⟨gb354, 2, none⟩ = some (.int .i64 a0_2) := (blk_cell BK354.out 2).trans rfl
                    have hcz85_3 : wc.cell? ⟨gb354, 3, none⟩ = some (.int .i64 a0_3) := (blk_cell BK354.out 3).trans rfl
                    have hcz85_4 : wc.cell? ⟨gb354, 4, none⟩ = some (.string a0_4) := (blk_cell BK354.out 4).trans rfl
                    have hcz85_5 : wc.cell? ⟨gb354, 5, none⟩ = some (.string a0_5) := (blk_cell BK354.out 5).trans rfl
                    have hcz85_6 : wc.cell? ⟨gb354, 6, none⟩ = some (.string a0_6) := (blk_cell BK354.out 6).trans rfl
                    have hfz85_0 := blk_frozen BK354.out 0
                    have hfz85_1 := blk_frozen BK354.out 1
                    have hfz85_2 := blk_frozen BK354.out 2
                    have hfz85_3 := blk_frozen BK354.out 3
                    have hfz85_4 := blk_frozen BK354.out 4
                    have hfz85_5 := blk_frozen BK354.out 5
                    have hfz85_6 := blk_frozen BK354.out 6
                    have hcz86_0 : wc.cell? ⟨gb368, 0, none⟩ = some (.int .i64 t357) := (blk_cell BK368.out 0).trans rfl
                    have hcz86_1 : wc.cell? ⟨gb368, 1, none⟩ = some (.int .i64 t358) := (blk_cell BK368.out 1).trans rfl
                    have hcz86_2 : wc.cell? ⟨gb368, 2, none⟩ = some (.int .i64 t359) := (blk_cell BK368.out 2).trans rfl
                    have hcz86_3 : wc.cell? ⟨gb368, 3, none⟩ = some (.int .i64 t360) := (blk_cell BK368.out 3).trans rfl
                    have hcz86_4 : wc.cell? ⟨gb368, 4, none⟩ = some (.string t361) := (blk_cell BK368.out 4).trans rfl
                    have hcz86_5 : wc.cell? ⟨gb368, 5, none⟩ = some (.string t362) := (blk_cell BK368.out 5).trans rfl
                    have hcz86_6 : wc.cell? ⟨gb368, 6, none⟩ = some (.string t363) := (blk_cell BK368.out 6).trans rfl
                    have hfz86_0 := blk_frozen BK368.out 0
                    have hfz86_1 := blk_frozen BK368.out 1
                    have hfz86_2 := blk_frozen BK368.out 2
                    have hfz86_3 := blk_frozen BK368.out 3
                    have hfz86_4 := blk_frozen BK368.out 4
                    have hfz86_5 := blk_frozen BK368.out 5
                    have hfz86_6 := blk_frozen BK368.out 6
                    go_wp2
                    go_ret
                    exact ⟨by first | rfl | (simp [errW_none, errW_some] <;> rfl) | (simp [*, errW_none, errW_some] <;> rfl), by repeat (first | (with_reducible first | exact HB.out | apply below_alloc | apply pw_below_drewN | apply below_drew1 | refine below_set ?_ GE354.out | refine below_set ?_ GE355.out | refine below_set ?_ GE368.out) | exact HB.out)⟩
                  · rw [if_neg c80] at H
                    have c80b0 : (t357 == (wrap64 (a0_0 + 1))) = false := beq_eq_false_iff_ne.mpr c80
                    have c80b1 : (t357 != (wrap64 (a0_0 + 1))) = true := bne_iff_ne.mpr c80
                    obtain rfl := Option.some.inj H
                    have hnb87 := NB355_354.out
                    have hnc87 := NB354_355.out
                    have hnb88 := NB355_368.out
                    have hnc88 := NB368_355.out
                    have hcz89_0 : wc.cell? ⟨gb355, 0, none⟩ = some (.int .i64 a1_0) := (blk_cell BK355.out 0).trans rfl
                    have hcz89_1 : wc.cell? ⟨gb355, 1, none⟩ = some (.int .i64 a1_1) := (blk_cell BK355.out 1).trans rfl
                    have hcz89_2 : wc.cell? ⟨gb355, 2, none⟩ = some (.slice A1_2 l1_2.length c1_2) := (blk_cell BK355.out 2).trans rfl
                    have hfz89_0 := blk_frozen BK355.out 0
                    have hfz89_1 := blk_frozen BK355.out 1
                    have hfz89_2 := blk_frozen BK355.out 2
                    have hnb90 := NB354_368.out
                    have hnc90 := NB368_354.out
                    have hcz91_0 : wc.cell? ⟨gb354, 0, none⟩ = some (.int .i64 a0_0) := (blk_cell BK354.out 0).trans rfl
                    have hcz91_1 : wc.cell? ⟨gb354, 1, none⟩ = some (.int .i64 a0_1) := (blk_cell BK354.out 1).trans rfl
                    have hcz91_2 : wc.cell? ⟨gb354, 2, none⟩ = some (.int .i64 a0_2) := (blk_cell BK354.out 2).trans rfl
                    have hcz91_3 : wc.cell? ⟨gb354, 3, none⟩ = some (.int .i64 a0_3) := (blk_cell BK354.out 3).trans rfl
                    have hcz91_4 : wc.cell? ⟨gb354, 4, none⟩ = some (.string a0_4) := (blk_cell BK354.out 4).trans rfl
                    have hcz91_5 : wc.cell? ⟨gb354, 5, none⟩ = some (.string a0_5) := (blk_cell BK354.out 5).trans rfl
                    have hcz91_6 : wc.cell? ⟨gb354, 6, none⟩ = some (.string a0_6) := (blk_cell BK354.out 6).trans rfl
                    have hfz91_0 := blk_frozen BK354.out 0
                    have hfz91_1 := blk_frozen BK354.out 1
                    have hfz91_2 := blk_frozen BK354.out 2
                    have hfz91_3 := blk_frozen BK354.out 3
                    have hfz91_4 := blk_frozen BK354.out 4
                    have hfz91_5 := blk_frozen BK354.out 5
                    have hfz91_6 := blk_frozen BK354.out 6
                    have hcz92_0 : wc.cell? ⟨gb368, 0, none⟩ = some (.int .i64 t357) := (blk_cell BK368.out 0).trans rfl
                    have hcz92_1 : wc.cell? ⟨gb368, 1, none⟩ = some (.int .i64 t358) := (blk_cell BK368.out 1).trans rfl
                    have hcz92_2 : wc.cell? ⟨gb368, 2, none⟩ = some (.int .i64 t359) := (blk_cell BK368.out 2).trans rfl
                    have hcz92_3 : wc.cell? ⟨gb368, 3, none⟩ = some (.int .i64 t360) := (blk_cell BK368.out 3).trans rfl
                    have hcz92_4 : wc.cell? ⟨gb368, 4, none⟩ = some (.string t361) := (blk_cell BK368.out 4).trans rfl
                    have hcz92_5 : wc.cell? ⟨gb368, 5, none⟩ = some (.string t362) := (blk_cell BK368.out 5).trans rfl
                    have hcz92_6 : wc.cell? ⟨gb368, 6, none⟩ = some (.string t363) := (blk_cell BK368.out 6).trans rfl
                    have hfz92_0 := blk_frozen BK368.out 0
                    have hfz92_1 := blk_frozen BK368.out 1
                    have hfz92_2 := blk_frozen BK368.out 2
                    have hfz92_3 := blk_frozen BK368.out 3
                    have hfz92_4 := blk_frozen BK368.out 4
                    have hfz92_5 := blk_frozen BK368.out 5
                    have hfz92_6 := blk_frozen BK368.out 6
                    go_wp2
                    go_ret
                    exact ⟨by first | rfl | (simp [errW_none, errW_some] <;> rfl) | (simp [*, errW_none, errW_some] <;> rfl), by repeat (first | (with_reducible first | exact HB.out | apply below_alloc | apply pw_below_drewN | apply below_drew1 | refine below_set ?_ GE354.out | refine below_set ?_ GE355.out | refine below_set ?_ GE368.out) | exact HB.out)⟩
                · rw [if_neg c79] at H
                  have c79b0 : (t367 == 0) = false := beq_eq_false_iff_ne.mpr c79
                  have c79b1 : (t367 != 0) = true := bne_iff_ne.mpr c79
                  obtain rfl := Option.some.inj H
                  have hnb93 := NB355_354.out
                  have hnc93 := NB354_355.out
                  have hnb94 := NB355_368.out
                  have hnc94 := NB368_355.out
                  have hcz95_0 : wc.cell? ⟨gb355, 0, none⟩ = some (.int .i64 a1_0) := (blk_cell BK355.out 0).trans rfl
                  have hcz95_1 : wc.cell? ⟨gb355, 1, none⟩ = some (.int .i64 a1_1) := (blk_cell BK355.out 1).trans rfl
                  have hcz95_2 : wc.cell? ⟨gb355, 2, none⟩ = some (.slice A1_2 l1_2.length c1_2) := (blk_cell BK355.out 2).trans rfl
                  have hfz95_0 := blk_frozen BK355.out 0
                  have hfz95_1 := blk_frozen BK355.out 1
                  have hfz95_2 := blk_frozen BK355.out 2
                  have hnb96 := NB354_368.out
                  have hnc96 := NB368_354.out
                  have hcz97_0 : wc.cell? ⟨gb354, 0, none⟩ = some (.int .i64 a0_0) := (blk_cell BK354.out 0).trans rfl
                  have hcz97_1 : wc.cell? ⟨gb354, 1, none⟩ = some (.int .i64 a0_1) := (blk_cell BK354.out 1).trans rfl
                  have hcz97_2 : wc.cell? ⟨gb354, 2, none⟩ = some (.int .i64 a0_2) := (blk_cell BK354.out 2).trans rfl
                  have hcz97_3 : wc.cell? ⟨gb354, 3, none⟩ = some (.int .i64 a0_3) := (blk_cell BK354.out 3).trans rfl
                  have hcz97_4 : wc.cell? ⟨gb354, 4, none⟩ = some (.string a0_4) := (blk_cell BK354.out 4).trans rfl
                  have hcz97_5 : wc.cell? ⟨gb354, 5, none⟩ = some (.string a0_5) := (blk_cell BK354.out 5).trans rfl
                  have hcz97_6 : wc.cell? ⟨gb354, 6, none⟩ = some (.string a0_6) := (blk_cell BK354.out 6).trans rfl
                  have hfz97_0 := blk_frozen BK354.out 0
                  have hfz97_1 := blk_frozen BK354.out 1
                  have hfz97_2 := blk_frozen BK354.out 2
                  have hfz97_3 := blk_frozen BK354.out 3
                  have hfz97_4 := blk_frozen BK354.out 4
                  have hfz97_5 := blk_frozen BK354.out 5
                  have hfz97_6 := blk_frozen BK354.out 6
                  have hcz98_0 : wc.cell? ⟨gb368, 0, none⟩ = some (.int .i64 t357) := (blk_cell BK368.out 0).trans rfl
                  have hcz98_1 : wc.cell? ⟨gb368, 1, none⟩ = some (.int .i64 t358) := (blk_cell BK368.out 1).trans rfl
                  have hcz98_2 : wc.cell? ⟨gb368, 2, none⟩ = some (.int .i64 t359) := (blk_cell BK368.out 2).trans rfl
                  have hcz98_3 : wc.cell? ⟨gb368, 3, none⟩ = some (.int .i64 t360) := (blk_cell BK368.out 3).trans rfl
                  have hcz98_4 : wc.cell? ⟨gb368, 4, none⟩ = some (.string t361) := (blk_cell BK368.out 4).trans rfl
                  have hcz98_5 : wc.cell? ⟨gb368, 5, none⟩ = some (.string t362) := (blk_cell BK368.out 5).trans rfl
                  have hcz98_6 : wc.cell? ⟨gb368, 6, none⟩ = some (.string t363) := (blk_cell BK368.out 6).trans rfl
                  have hfz98_0 := blk_frozen BK368.out 0
                  have hfz98_1 := blk_frozen BK368.out 1
                  have hfz98_2 := blk_frozen BK368.out 2
                  have hfz98_3 := blk_frozen BK368.out 3
                  have hfz98_4 := blk_frozen BK368.out 4
                  have hfz98_5 := blk_frozen BK368.out 5
                  have hfz98_6 := blk_frozen BK368.out 6
                  go_wp2
                  go_ret
                  exact ⟨by first | rfl | (simp [errW_none, errW_some] <;> rfl) | (simp [*, errW_none, errW_some] <;> rfl), by repeat (first | (with_reducible first | exact HB.out | apply below_alloc | apply pw_below_drewN | apply below_drew1 | refine below_set ?_ GE354.out | refine below_set ?_ GE355.out | refine below_set ?_ GE368.out) | exact HB.out)⟩
              · replace c78 := Bool.eq_false_iff.mpr c78
                subst c78
                have H1 : (some false) = some r := by rw [if_neg (show ¬ (false = true) by decide)] at H; exact H
                clear H
                have H := H1
                clear H1
                obtain rfl := Option.some.inj H
                have hnb99 := NB355_354.out
                have hnc99 := NB354_355.out
                have hnb100 := NB355_368.out
                have hnc100 := NB368_355.out
                have hcz101_0 : wc.cell? ⟨gb355, 0, none⟩ = some (.int .i64 a1_0) := (blk_cell BK355.out 0).trans rfl
                have hcz101_1 : wc.cell? ⟨gb355, 1, none⟩ = some (.int .i64 a1_1) := (blk_cell BK355.out 1).trans rfl
                have hcz101_2 : wc.cell? ⟨gb355, 2, none⟩ = some (.slice A1_2 l1_2.length c1_2) := (blk_cell BK355.out 2).trans rfl
                have hfz101_0 := blk_frozen BK355.out 0
                have hfz101_1 := blk_frozen BK355.out 1
                have hfz101_2 := blk_frozen BK355.out 2
                have hnb102 := NB354_368.out
                have hnc102 := NB368_354.out
                have hcz103_0 : wc.cell? ⟨gb354, 0, none⟩ = some (.int .i64 a0_0) := (blk_cell BK354.out 0).trans rfl
                have hcz103_1 : wc.cell? ⟨gb354, 1, none⟩ = some (.int .i64 a0_1) := (blk_cell BK354.out 1).trans rfl
                have hcz103_2 : wc.cell? ⟨gb354, 2, none⟩ = some (.int .i64 a0_2) := (blk_cell BK354.out 2).trans rfl
                have hcz103_3 : wc.cell? ⟨gb354, 3, none⟩ = some (.int .i64 a0_3) := (blk_cell BK354.out 3).trans rfl
                have hcz103_4 : wc.cell? ⟨gb354, 4, none⟩ = some (.string a0_4) := (blk_cell BK354.out 4).trans rfl
                have hcz103_5 : wc.cell? ⟨gb354, 5, none⟩ = some (.string a0_5) := (blk_cell BK354.out 5).trans rfl
                have hcz103_6 : wc.cell? ⟨gb354, 6, none⟩ = some (.string a0_6) := (blk_cell BK354.out 6).trans rfl
                have hfz103_0 := blk_frozen BK354.out 0
                have hfz103_1 := blk_frozen BK354.out 1
                have hfz103_2 := blk_frozen BK354.out 2
                have hfz103_3 := blk_frozen BK354.out 3
                have hfz103_4 := blk_frozen BK354.out 4
                have hfz103_5 := blk_frozen BK354.out 5
                have hfz103_6 := blk_frozen BK354.out 6
                go_wp2
                go_ret
                exact ⟨by first | rfl | (simp [errW_none, errW_some] <;> rfl) | (simp [*, errW_none, errW_some] <;> rfl), by repeat (first | (with_reducible first | exact HB.out | apply below_alloc | apply pw_below_drewN | apply below_drew1 | refine below_set ?_ GE354.out | refine below_set ?_ GE355.out | refine below_set ?_ GE368.out) | exact HB.out)⟩
        · rw [if_neg c29] at H
          have c29b0 : (a1_0 == 10) = false := beq_eq_false_iff_ne.mpr c29
          have c29b1 : (a1_0 != 10) = true := bne_iff_ne.mpr c29
          by_cases c104 : t356 = true
          · subst c104
            have H1 : (if t367 = 8 then (if (t357 == a0_0 && ((t358 == a0_1 && (t359 == a0_2 && (t360 == a0_3))) && (t361.toList == a0_4.toList && (t362.toList == a0_5.toList && (t363.toList == a0_6.toList))))) = true then (some ((t364.length : Int) == 0)) else (some false)) else (some false)) = some r := by rw [if_pos rfl] at H; exact H
            clear H
            have H := H1
            clear H1
            by_cases c105 : t367 = 8
            · rw [if_pos c105] at H
              have c105b0 : (t367 == 8) = true := beq_iff_eq.mpr c105
              have c105b1 : (t367 != 8) = false := bne_eq_false_iff_eq.mpr c105
              clear c105
              by_cases c106 : (t357 == a0_0 && ((t358 == a0_1 && (t359 == a0_2 && (t360 == a0_3))) && (t361.toList == a0_4.toList && (t362.toList == a0_5.toList && (t363.toList == a0_6.toList))))) = true
              · rw [if_pos c106] at H
                have c106b0 : (t357 == a0_0 && ((t358 == a0_1 && (t359 == a0_2 && (t360 == a0_3))) && (t361.toList == a0_4.toList && (t362.toList == a0_5.toList && (t363.toList == a0_6.toList))))) = true := c106
                (try (have c106b1 : decide (t357 = a0_0 && ((t358 == a0_1 && (t359 == a0_2 && (t360 == a0_3))) && (t361.toList == a0_4.toList && (t362.toList == a0_5.toList && (t363.toList == a0_6.toList))))) = true := by simpa using c106))
                (try (have c106b2 : (t357 == a0_0 && ((t358 == a0_1 && (t359 == a0_2 && (t360 == a0_3))) && (t361.toList == a0_4.toList && (t362.toList == a0_5.toList && (t363.toList == a0_6.toList))))) = true := by simpa using c106))
                clear c106
                obtain rfl := Option.some.inj H
                have hnb107 := NB355_354.out
                have hnc107 := NB354_355.out
                have hnb108 := NB355_368.out
                have hnc108 := NB368_355.out
                have hcz109_0 : wc.cell? ⟨gb355, 0, none⟩ = some (.int .i64 a1_0) := (blk_cell BK355.out 0).trans rfl
                have hcz109_1 : wc.cell? ⟨gb355, 1, none⟩ = some (.int .i64 a1_1) := (blk_cell BK355.out 1).trans rfl
                have hcz109_2 : wc.cell? ⟨gb355, 2, none⟩ = some (.slice A1_2 l1_2.length c1_2) := (blk_cell BK355.out 2).trans rfl
                have hfz109_0 := blk_frozen BK355.out 0
                have hfz109_1 := blk_frozen BK355.out 1
                have hfz109_2 := blk_frozen BK355.out 2
                have hnb110 := NB368_354.out
                have hnc110 := NB354_368.out
                have hcz111_0 : wc.cell? ⟨gb368, 0, none⟩ = some (.int .i64 t357) := (blk_cell BK368.out 0).trans rfl
                have hcz111_1 : wc.cell? ⟨gb368, 1, none⟩ = some (.int .i64 t358) := (blk_cell BK368.out 1).trans rfl
                have hcz111_2 : wc.cell? ⟨gb368, 2, none⟩ = some (.int .i64 t359) := (blk_cell BK368.out 2).trans rfl
                have hcz111_3 : wc.cell? ⟨gb368, 3, none⟩ = some (.int .i64 t360) := (blk_cell BK368.out 3).trans rfl
                have hcz111_4 : wc.cell? ⟨gb368, 4, none⟩ = some (.string t361) := (blk_cell BK368.out 4).trans rfl
                have hcz111_5 : wc.cell? ⟨gb368, 5, none⟩ = some (.string t362) := (blk_cell BK368.out 5).trans rfl
                have hcz111_6 : wc.cell? ⟨gb368, 6, none⟩ = some (.string t363) := (blk_cell BK368.out 6).trans rfl
                have hfz111_0 := blk_frozen BK368.out 0
                have hfz111_1 := blk_frozen BK368.out 1
                have hfz111_2 := blk_frozen BK368.out 2
                have hfz111_3 := blk_frozen BK368.out 3
                have hfz111_4 := blk_frozen BK368.out 4
                have hfz111_5 := blk_frozen BK368.out 5
                have hfz111_6 := blk_frozen BK368.out 6
                have hcz112_0 : wc.cell? ⟨gb354, 0, none⟩ = some (.int .i64 a0_0) := (blk_cell BK354.out 0).trans rfl
                have hcz112_1 : wc.cell? ⟨gb354, 1, none⟩ = some (.int .i64 a0_1) := (blk_cell BK354.out 1).trans rfl
                have hcz112_2 : wc.cell? ⟨gb354, 2, none⟩ = some (.int .i64 a0_2) := (blk_cell BK354.out 2).trans rfl
                have hcz112_3 : wc.cell? ⟨gb354, 3, none⟩ = some (.int .i64 a0_3) := (blk_cell BK354.out 3).trans rfl
                have hcz112_4 : wc.cell? ⟨gb354, 4, none⟩ = some (.string a0_4) := (blk_cell BK354.out 4).trans rfl
                have hcz112_5 : wc.cell? ⟨gb354, 5, none⟩ = some (.string a0_5) := (blk_cell BK354.out 5).trans rfl
                have hcz112_6 : wc.cell? ⟨gb354, 6, none⟩ = some (.string a0_6) := (blk_cell BK354.out 6).trans rfl
                have hfz112_0 := blk_frozen BK354.out 0
                have hfz112_1 := blk_frozen BK354.out 1
                have hfz112_2 := blk_frozen BK354.out 2
                have hfz112_3 := blk_frozen BK354.out 3
                have hfz112_4 := blk_frozen BK354.out 4
                have hfz112_5 := blk_frozen BK354.out 5
                have hfz112_6 := blk_frozen BK354.out 6
                obtain ⟨Ao113, co113, eo113⟩ := Kd.N_slice HO_7.out
                subst eo113
                go_wp2
                go_ret
                exact ⟨by first | rfl | (simp [errW_none, errW_some] <;> rfl) | (simp [*, errW_none, errW_some] <;> rfl), by repeat (first | (with_reducible first | exact HB.out | apply below_alloc | apply pw_below_drewN | apply below_drew1 | refine below_set ?_ GE354.out | refine below_set ?_ GE355.out | refine below_set ?_ GE368.out) | exact HB.out)⟩
              · rw [if_neg c106] at H
                have c106b0 : (t357 == a0_0 && ((t358 == a0_1 && (t359 == a0_2 && (t360 == a0_3))) && (t361.toList == a0_4.toList && (t362.toList == a0_5.toList && (t363.toList == a0_6.toList))))) = false := by simpa using c106
                (try (have c106b1 : decide (t357 = a0_0 && ((t358 == a0_1 && (t359 == a0_2 && (t360 == a0_3))) && (t361.toList == a0_4.toList && (t362.toList == a0_5.toList && (t363.toList == a0_6.toList))))) = false := by simpa using c106))
                (try (have c106b2 : (t357 == a0_0 && ((t358 == a0_1 && (t359 == a0_2 && (t360 == a0_3))) && (t361.toList == a0_4.toList && (t362.toList == a0_5.toList && (t363.toList == a0_6.toList))))) = false := by simpa using c106))
                (try (have c106b3 : ¬ (t357 = a0_0 && ((t358 == a0_1 && (t359 == a0_2 && (t360 == a0_3))) && (t361.toList == a0_4.toList && (t362.toList == a0_5.toList && (t363.toList == a0_6.toList))))) := by simpa using c106))
                clear c106
                obtain rfl := Option.some.inj H
                have hnb114 := NB355_354.out
                have hnc114 := NB354_355.out
                have hnb115 := NB355_368.out
                have hnc115 := NB368_355.out
                have hcz116_0 : wc.cell? ⟨gb355, 0, none⟩ = some (.int .i64 a1_0) := (blk_cell BK355.out 0).trans rfl
                have hcz116_1 : wc.cell? ⟨gb355, 1, none⟩ = some (.int .i64 a1_1) := (blk_cell BK355.out 1).trans rfl
                have hcz116_2 : wc.cell? ⟨gb355, 2, none⟩ = some (.slice A1_2 l1_2.length c1_2) := (blk_cell BK355.out 2).trans rfl
                have hfz116_0 := blk_frozen BK355.out 0
                have hfz116_1 := blk_frozen BK355.out 1
                have hfz116_2 := blk_frozen BK355.out 2
                have hnb117 := NB368_354.out
                have hnc117 := NB354_368.out
                have hcz118_0 : wc.cell? ⟨gb368, 0, none⟩ = some (.int .i64 t357) := (blk_cell BK368.out 0).trans rfl
                have hcz118_1 : wc.cell? ⟨gb368, 1, none⟩ = some (.int .i64 t358) := (blk_cell BK368.out 1).trans rfl
                have hcz118_2 : wc.cell? ⟨gb368, 2, none⟩ = some (.int .i64 t359) := (blk_cell BK368.out 2).trans rfl
                have hcz118_3 : wc.cell? ⟨gb368, 3, none⟩ = some (.int .i64 t360) := (blk_cell BK368.out 3).trans rfl
                have hcz118_4 : wc.cell? ⟨gb368, 4, none⟩ = some (.string t361) := (blk_cell BK368.out 4).trans rfl
                have hcz118_5 : wc.cell? ⟨gb368, 5, none⟩ = some (.string t362) := (blk_cell BK368.out 5).trans rfl
                have hcz118_6 : wc.cell? ⟨gb368, 6, none⟩ = some (.string t363) := (blk_cell BK368.out 6).trans rfl
                have hfz118_0 := blk_frozen BK368.out 0
                have hfz118_1 := blk_frozen BK368.out 1
                have hfz118_2 := blk_frozen BK368.out 2
                have hfz118_3 := blk_frozen BK368.out 3
                have hfz118_4 := blk_frozen BK368.out 4
                have hfz118_5 := blk_frozen BK368.out 5
                have hfz118_6 := blk_frozen BK368.out 6
                have hcz119_0 : wc.cell? ⟨gb354, 0, none⟩ = some (.int .i64 a0_0) := (blk_cell BK354.out 0).trans rfl
                have hcz119_1 : wc.cell? ⟨gb354, 1, none⟩ = some (.int .i64 a0_1) := (blk_cell BK354.out 1).trans rfl
                have hcz119_2 : wc.cell? ⟨gb354, 2, none⟩ = some (.int .i64 a0_2) := (blk_cell BK354.out 2).trans rfl
                have hcz119_3 : wc.cell? ⟨gb354, 3, none⟩ = some (.int .i64 a0_3) := (blk_cell BK354.out 3).trans rfl
                have hcz119_4 : wc.cell? ⟨gb354, 4, none⟩ = some (.string a0_4) := (blk_cell BK354.out 4).trans rfl
                have hcz119_5 : wc.cell? ⟨gb354, 5, none⟩ = some (.string a0_5) := (blk_cell BK354.out 5).trans rfl
                have hcz119_6 : wc.cell? ⟨gb354, 6, none⟩ = some (.string a0_6) := (blk_cell BK354.out 6).trans rfl
                have hfz119_0 := blk_frozen BK354.out 0
                have hfz119_1 := blk_frozen BK354.out 1
                have hfz119_2 := blk_frozen BK354.out 2
                have hfz119_3 := blk_frozen BK354.out 3
                have hfz119_4 := blk_frozen BK354.out 4
                have hfz119_5 := blk_frozen BK354.out 5
                have hfz119_6 := blk_frozen BK354.out 6
                go_wp2
                go_ret
                exact ⟨by first | rfl | (simp [errW_none, errW_some] <;> rfl) | (simp [*, errW_none, errW_some] <;> rfl), by repeat (first | (with_reducible first | exact HB.out | apply below_alloc | apply pw_below_drewN | apply below_drew1 | refine below_set ?_ GE354.out | refine below_set ?_ GE355.out | refine below_set ?_ GE368.out) | exact HB.out)⟩
            · rw [if_neg c105] at H
              have c105b0 : (t367 == 8) = false := beq_eq_false_iff_ne.mpr c105
              have c105b1 : (t367 != 8) = true := bne_iff_ne.mpr c105
              obtain rfl := Option.some.inj H
              have hnb120 := NB355_354.out
              have hnc120 := NB354_355.out
              have hnb121 := NB355_368.out
              have hnc121 := NB368_355.out
              have hcz122_0 : wc.cell? ⟨gb355, 0, none⟩ = some (.int .i64 a1_0) := (blk_cell BK355.out 0).trans rfl
              have hcz122_1 : wc.cell? ⟨gb355, 1, none⟩ = some (.int .i64 a1_1) := (blk_cell BK355.out 1).trans rfl
              have hcz122_2 : wc.cell? ⟨gb355, 2, none⟩ = some (.slice A1_2 l1_2.length c1_2) := (blk_cell BK355.out 2).trans rfl
              have hfz122_0 := blk_frozen BK355.out 0
              have hfz122_1 := blk_frozen BK355.out 1
              have hfz122_2 := blk_frozen BK355.out 2
              go_wp2
              go_ret
              exact ⟨by first | rfl | (simp [errW_none, errW_some] <;> rfl) | (simp [*, errW_none, errW_some] <;> rfl), by repeat (first | (with_reducible first | exact HB.out | apply below_alloc | apply pw_below_drewN | apply below_drew1 | refine below_set ?_ GE354.out | refine below_set ?_ GE355.out | refine below_set ?_ GE368.out) | exact HB.out)⟩
          · replace c104 := Bool.eq_false_iff.mpr c104
            subst c104
            have H1 : (some false) = some r := by rw [if_neg (show ¬ (false = true) by decide)] at H; exact H
            clear H
            have H := H1
            clear H1
            obtain rfl := Option.some.inj H
            have hnb123 := NB355_354.out
            have hnc123 := NB354_355.out
            have hnb124 := NB355_368.out
            have hnc124 := NB368_355.out
            have hcz125_0 : wc.cell? ⟨gb355, 0, none⟩ = some (.int .i64 a1_0) := (blk_cell BK355.out 0).trans rfl
            have hcz125_1 : wc.cell? ⟨gb355, 1, none⟩ = some (.int .i64 a1_1) := (blk_cell BK355.out 1).trans rfl
            have hcz125_2 : wc.cell? ⟨gb355, 2, none⟩ = some (.slice A1_2 l1_2.length c1_2) := (blk_cell BK355.out 2).trans rfl
            have hfz125_0 := blk_frozen BK355.out 0
            have hfz125_1 := blk_frozen BK355.out 1
            have hfz125_2 := blk_frozen BK355.out 2
            go_wp2
            go_ret
            exact ⟨by first | rfl | (simp [errW_none, errW_some] <;> rfl) | (simp [*, errW_none, errW_some] <;> rfl), by repeat (first | (with_reducible first | exact HB.out | apply below_alloc | apply pw_below_drewN | apply below_drew1 | refine below_set ?_ GE354.out | refine below_set ?_ GE355.out | refine below_set ?_ GE368.out) | exact HB.out)⟩

end Go.Proofs.YtdogcnadopepmaaDoor.H
