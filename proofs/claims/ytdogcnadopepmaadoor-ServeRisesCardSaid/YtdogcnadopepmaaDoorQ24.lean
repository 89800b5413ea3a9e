/- Laid by a program of this session's (hyb.py) over the kit's print: functions and their contracts, some callees' contracts being typed by hand. -/
import Derived.Test.YtdogcnadopepmaaDoorC12
import Derived.Test.YtdogcnadopepmaaDoorG2
import Derived.Test.YtdogcnadopepmaaDoorH0
import Derived.Test.YtdogcnadopepmaaDoorG6
namespace Go.Proofs.YtdogcnadopepmaaDoor.H
open Go.RowKit Go.Proofs.YtdogcnadopepmaaDoor.M Go.Proofs.YtdogcnadopepmaaDoorW.PrintWords Go.Proofs.YtdogcnadopepmaaDoorW.PrintLast Go.Proofs.YtdogcnadopepmaaDoorW.PrintMore
attribute [local go_sem] max2_int min2_int max_two min_two max_three min_three max_four min_four   -- for this text's walks alone
set_option linter.unusedVariables false
set_option linter.unusedSimpArgs false

/-! ### shown10p: function 24 -/
def shown10p.f (k : Nat)  : Option (Bool) := (serve_Begin.f 9 4096 5).bind fun bt293 => ((serve_Greet.f bt293.1 bt293.2.1 bt293.2.2.1 bt293.2.2.2.1 bt293.2.2.2.2.1 bt293.2.2.2.2.2.1 bt293.2.2.2.2.2.2.1).bind fun bt302 => ((serve_Empty.f).bind fun t313 => ((serve_Take.f k bt302.1 bt302.2.1 bt302.2.2.1 bt302.2.2.2.1 bt302.2.2.2.2.1 bt302.2.2.2.2.2.1 bt302.2.2.2.2.2.2.1 10 11 (([(⟨0, t313⟩ : S56), (⟨0, (⟨#[80, 76, 65, 73, 78]⟩ : ByteArray)⟩ : S56), (⟨0, (⟨#[0, 117, 0, 112]⟩ : ByteArray)⟩ : S56), (⟨0, (⟨#[101, 110, 95, 85, 83]⟩ : ByteArray)⟩ : S56)] : List (S56)))).bind fun bt317 => (if bt293.2.2.2.2.2.2.2 = 0 then (if bt302.2.2.2.2.2.2.2.2 = 0 then (if bt317.2.2.2.2.2.2.2.2 = 0 then (if (bt302.2.2.2.2.2.2.2.1.length : Int) = 1 then (if 0 < (bt302.2.2.2.2.2.2.2.1.length : Int) then (if ((rd_T24 bt302.2.2.2.2.2.2.2.1 0).f1) = 10 then (if (bt317.2.2.2.2.2.2.2.1.length : Int) = 1 then (if 0 < (bt317.2.2.2.2.2.2.2.1.length : Int) then (some (((rd_T24 bt317.2.2.2.2.2.2.2.1 0).f1) == 30)) else (none)) else (some false)) else (some false)) else (none)) else (some false)) else (some false)) else (some false)) else (some false)))))
theorem shown10p.mono : ∀ k, LeO (shown10p.f k ) (shown10p.f (k + 1) ) := by
  intro  k
  unfold shown10p.f
  repeat' first
      | (with_reducible exact serve_Take.mono _ _ _ _ _ _ _ _ _ _ _)
      | (with_reducible exact LeO.refl _)
      | (with_reducible exact LeO.none _)
      | (with_reducible refine LeO.ite ?_ ?_)
      | (with_reducible refine LeO.bind ?_ (fun _ => ?_))
      | exact serve_Take.mono _ _ _ _ _ _ _ _ _ _ _
      | exact LeO.none _
      | refine LeO.ite ?_ ?_
      | refine LeO.bind ?_ (fun _ => ?_)
def shown10p.T3 : Bool × List (List Nat × List Nat) := (true, [([], []), ([], []), ([1], [1]), ([], []), ([], []), ([], []), ([2, 3, 4, 5], [2, 3, 4, 5]), ([6], [6]), ([0, 7, 1], [0, 7]), ([8], [8]), ([9], [9]), ([9], [9]), ([9], [9]), ([], []), ([13, 10, 8, 0, 1, 2, 3, 4, 5, 6, 7, 8, 9, 10, 13], [10, 13]), ([11, 14, 0, 1, 2, 3, 4, 5, 6, 7, 8, 9, 10, 11, 13, 14], [11]), ([12, 15, 0, 1, 2, 3, 4, 5, 6, 7, 8, 9, 10, 11, 12, 13, 14, 15], [12])])
def shown10p.B3 : List Nat := [0, 0, 2, 0, 0, 0, 62, 126, 255, 511, 1023, 1023, 1023, 0, 10239, 28671, 65535]
theorem shown10p.tab3 : rtab .any (opsOf Tryd.f24 3) = shown10p.T3 := by kernel_rfl
theorem shown10p.bits3 : waitsOk shown10p.T3.2 shown10p.B3 = true := by kernel_rfl
set_option maxHeartbeats 8000000 in
set_option maxRecDepth 100000 in
theorem shown10p.calls (k : Nat)  (r : Bool) (w : World) (h : shown10p.f k  = some r) (hT0 : r = true) (hWd : Wd w := by first | (with_reducible assumption) | exact hWd.drewN _ | exact Wd.up hWd (by repeat (first | (with_reducible first | exact HB.out | apply below_alloc | apply pw_below_drewN | apply below_drew1) | exact HB.out))) :
    Calls Tryd.prog 24 #[] w fun e w' => e = .returned (.bool r) ∧ Below w.heap.size w w' := by
  have hu40 := Tryd.underlying40
  have hu43 := Tryd.underlying43
  have hu56 := Tryd.underlying56
  have hu24 := Tryd.underlying24
  have HB := Aside0.mk (Below.refl w.heap.size w)
  have HT0 := Aside0.mk hT0
  clear hT0
  have H : ((serve_Begin.f 9 4096 5).bind fun bt293 => ((serve_Greet.f bt293.1 bt293.2.1 bt293.2.2.1 bt293.2.2.2.1 bt293.2.2.2.2.1 bt293.2.2.2.2.2.1 bt293.2.2.2.2.2.2.1).bind fun bt302 => ((serve_Empty.f).bind fun t313 => ((serve_Take.f k bt302.1 bt302.2.1 bt302.2.2.1 bt302.2.2.2.1 bt302.2.2.2.2.1 bt302.2.2.2.2.2.1 bt302.2.2.2.2.2.2.1 10 11 (([(⟨0, t313⟩ : S56), (⟨0, (⟨#[80, 76, 65, 73, 78]⟩ : ByteArray)⟩ : S56), (⟨0, (⟨#[0, 117, 0, 112]⟩ : ByteArray)⟩ : S56), (⟨0, (⟨#[101, 110, 95, 85, 83]⟩ : ByteArray)⟩ : S56)] : List (S56)))).bind fun bt317 => (if bt293.2.2.2.2.2.2.2 = 0 then (if bt302.2.2.2.2.2.2.2.2 = 0 then (if bt317.2.2.2.2.2.2.2.2 = 0 then (if (bt302.2.2.2.2.2.2.2.1.length : Int) = 1 then (if 0 < (bt302.2.2.2.2.2.2.2.1.length : Int) then (if ((rd_T24 bt302.2.2.2.2.2.2.2.1 0).f1) = 10 then (if (bt317.2.2.2.2.2.2.2.1.length : Int) = 1 then (if 0 < (bt317.2.2.2.2.2.2.2.1.length : Int) then (some (((rd_T24 bt317.2.2.2.2.2.2.2.1 0).f1) == 30)) else (none)) else (some false)) else (some false)) else (none)) else (some false)) else (some false)) else (some false)) else (some false)))))) = some r := h
  clear h
  replace H := Option.bind_eq_some_iff.mp H
  obtain ⟨⟨t293, t294, t295, t296, t297, t298, t299, t300⟩, A10, H⟩ := H
  replace H : ((serve_Greet.f t293 t294 t295 t296 t297 t298 t299).bind fun bt302 => ((serve_Empty.f).bind fun t313 => ((serve_Take.f k bt302.1 bt302.2.1 bt302.2.2.1 bt302.2.2.2.1 bt302.2.2.2.2.1 bt302.2.2.2.2.2.1 bt302.2.2.2.2.2.2.1 10 11 (([(⟨0, t313⟩ : S56), (⟨0, (⟨#[80, 76, 65, 73, 78]⟩ : ByteArray)⟩ : S56), (⟨0, (⟨#[0, 117, 0, 112]⟩ : ByteArray)⟩ : S56), (⟨0, (⟨#[101, 110, 95, 85, 83]⟩ : ByteArray)⟩ : S56)] : List (S56)))).bind fun bt317 => (if t300 = 0 then (if bt302.2.2.2.2.2.2.2.2 = 0 then (if bt317.2.2.2.2.2.2.2.2 = 0 then (if (bt302.2.2.2.2.2.2.2.1.length : Int) = 1 then (if 0 < (bt302.2.2.2.2.2.2.2.1.length : Int) then (if ((rd_T24 bt302.2.2.2.2.2.2.2.1 0).f1) = 10 then (if (bt317.2.2.2.2.2.2.2.1.length : Int) = 1 then (if 0 < (bt317.2.2.2.2.2.2.2.1.length : Int) then (some (((rd_T24 bt317.2.2.2.2.2.2.2.1 0).f1) == 30)) else (none)) else (some false)) else (some false)) else (none)) else (some false)) else (some false)) else (some false)) else (some false))))) = some r := H
  have A1 := Aside0.mk A10
  clear A10
  replace H := Option.bind_eq_some_iff.mp H
  obtain ⟨⟨t302, t303, t304, t305, t306, t307, t308, t309, t312⟩, A20, H⟩ := H
  replace H : ((serve_Empty.f).bind fun t313 => ((serve_Take.f k t302 t303 t304 t305 t306 t307 t308 10 11 (([(⟨0, t313⟩ : S56), (⟨0, (⟨#[80, 76, 65, 73, 78]⟩ : ByteArray)⟩ : S56), (⟨0, (⟨#[0, 117, 0, 112]⟩ : ByteArray)⟩ : S56), (⟨0, (⟨#[101, 110, 95, 85, 83]⟩ : ByteArray)⟩ : S56)] : List (S56)))).bind fun bt317 => (if t300 = 0 then (if t312 = 0 then (if bt317.2.2.2.2.2.2.2.2 = 0 then (if (t309.length : Int) = 1 then (if 0 < (t309.length : Int) then (if ((rd_T24 t309 0).f1) = 10 then (if (bt317.2.2.2.2.2.2.2.1.length : Int) = 1 then (if 0 < (bt317.2.2.2.2.2.2.2.1.length : Int) then (some (((rd_T24 bt317.2.2.2.2.2.2.2.1 0).f1) == 30)) else (none)) else (some false)) else (some false)) else (none)) else (some false)) else (some false)) else (some false)) else (some false)))) = some r := H
  have A2 := Aside0.mk A20
  clear A20
  replace H := Option.bind_eq_some_iff.mp H
  obtain ⟨t313, A30, H⟩ := H
  replace H : ((serve_Take.f k t302 t303 t304 t305 t306 t307 t308 10 11 (([(⟨0, t313⟩ : S56), (⟨0, (⟨#[80, 76, 65, 73, 78]⟩ : ByteArray)⟩ : S56), (⟨0, (⟨#[0, 117, 0, 112]⟩ : ByteArray)⟩ : S56), (⟨0, (⟨#[101, 110, 95, 85, 83]⟩ : ByteArray)⟩ : S56)] : List (S56)))).bind fun bt317 => (if t300 = 0 then (if t312 = 0 then (if bt317.2.2.2.2.2.2.2.2 = 0 then (if (t309.length : Int) = 1 then (if 0 < (t309.length : Int) then (if ((rd_T24 t309 0).f1) = 10 then (if (bt317.2.2.2.2.2.2.2.1.length : Int) = 1 then (if 0 < (bt317.2.2.2.2.2.2.2.1.length : Int) then (some (((rd_T24 bt317.2.2.2.2.2.2.2.1 0).f1) == 30)) else (none)) else (some false)) else (some false)) else (none)) else (some false)) else (some false)) else (some false)) else (some false))) = some r := H
  have A3 := Aside0.mk A30
  clear A30
  obtain ⟨y314, hy314⟩ : ∃ y_ : List (S56), y_ = (([(⟨0, t313⟩ : S56), (⟨0, (⟨#[80, 76, 65, 73, 78]⟩ : ByteArray)⟩ : S56), (⟨0, (⟨#[0, 117, 0, 112]⟩ : ByteArray)⟩ : S56), (⟨0, (⟨#[101, 110, 95, 85, 83]⟩ : ByteArray)⟩ : S56)] : List (S56))) := ⟨_, rfl⟩
  replace H : ((serve_Take.f k t302 t303 t304 t305 t306 t307 t308 10 11 y314).bind fun bt317 => (if t300 = 0 then (if t312 = 0 then (if bt317.2.2.2.2.2.2.2.2 = 0 then (if (t309.length : Int) = 1 then (if 0 < (t309.length : Int) then (if ((rd_T24 t309 0).f1) = 10 then (if (bt317.2.2.2.2.2.2.2.1.length : Int) = 1 then (if 0 < (bt317.2.2.2.2.2.2.2.1.length : Int) then (some (((rd_T24 bt317.2.2.2.2.2.2.2.1 0).f1) == 30)) else (none)) else (some false)) else (some false)) else (none)) else (some false)) else (some false)) else (some false)) else (some false))) = some r := by first | (rw [hy314]; with_reducible exact H) | (have H2_ := (Option.bind_some _ _).symm.trans H; rw [hy314]; with_reducible exact H2_) | (have H2_ := (Option.bind_some _ _).symm.trans H; with_reducible exact H2_) | with_reducible exact H | (rw [hy314]; exact H) | exact H
  have Ny314 := Aside0.mk hy314
  clear hy314
  replace H := Option.bind_eq_some_iff.mp H
  obtain ⟨⟨t317, t318, t319, t320, t321, t322, t323, t324, t327⟩, A40, H⟩ := H
  replace H : (if t300 = 0 then (if t312 = 0 then (if t327 = 0 then (if (t309.length : Int) = 1 then (if 0 < (t309.length : Int) then (if ((rd_T24 t309 0).f1) = 10 then (if (t324.length : Int) = 1 then (if 0 < (t324.length : Int) then (some (((rd_T24 t324 0).f1) == 30)) else (none)) else (some false)) else (some false)) else (none)) else (some false)) else (some false)) else (some false)) else (some false)) = some r := H
  have A4 := Aside0.mk A40
  clear A40
  by_cases c5 : t300 = 0
  · rw [if_pos c5] at H
    have c5b0 : (t300 == 0) = true := beq_iff_eq.mpr c5
    have c5b1 : (t300 != 0) = false := bne_eq_false_iff_eq.mpr c5
    clear c5
    by_cases c6 : t312 = 0
    · rw [if_pos c6] at H
      have c6b0 : (t312 == 0) = true := beq_iff_eq.mpr c6
      have c6b1 : (t312 != 0) = false := bne_eq_false_iff_eq.mpr c6
      clear c6
      by_cases c7 : t327 = 0
      · rw [if_pos c7] at H
        have c7b0 : (t327 == 0) = true := beq_iff_eq.mpr c7
        have c7b1 : (t327 != 0) = false := bne_eq_false_iff_eq.mpr c7
        clear c7
        by_cases c8 : (t309.length : Int) = 1
        · rw [if_pos c8] at H
          have c8b0 : ((t309.length : Int) == 1) = true := beq_iff_eq.mpr c8
          have c8b1 : ((t309.length : Int) != 1) = false := bne_eq_false_iff_eq.mpr c8
          clear c8
          by_cases c9 : 0 < (t309.length : Int)
          · rw [if_pos c9] at H
            have c9b0 : decide (0 < (t309.length : Int)) = true := decide_eq_true c9
            have c9b1 : decide (0 < t309.length) = true := decide_eq_true (by omega)
            clear c9
            by_cases c10 : ((rd_T24 t309 0).f1) = 10
            · rw [if_pos c10] at H
              have c10b0 : (((rd_T24 t309 0).f1) == 10) = true := beq_iff_eq.mpr c10
              have c10b1 : (((rd_T24 t309 0).f1) != 10) = false := bne_eq_false_iff_eq.mpr c10
              clear c10
              by_cases c11 : (t324.length : Int) = 1
              · rw [if_pos c11] at H
                have c11b0 : ((t324.length : Int) == 1) = true := beq_iff_eq.mpr c11
                have c11b1 : ((t324.length : Int) != 1) = false := bne_eq_false_iff_eq.mpr c11
                clear c11
                by_cases c12 : 0 < (t324.length : Int)
                · rw [if_pos c12] at H
                  have c12b0 : decide (0 < (t324.length : Int)) = true := decide_eq_true c12
                  have c12b1 : decide (0 < t324.length) = true := decide_eq_true (by omega)
                  clear c12
                  obtain rfl := Option.some.inj H
                  go_enter Tryd.func24, Tryd.ntmps24
                  try go_wp2_with (first | ((with_reducible refine gate_callee (f := 25) rfl ?_); refine goesL_ (some 10) rfl rfl Tryd.func25 (by kernel_rfl) rfl #[.agg #[.int .i64 9, .int .i64 4096, .int .i64 5]] rfl (by (try simp only [List.map_toArray, List.map_cons, List.map_nil]); first | done | rfl | (simp only [List.length_drop, List.length_take]; rfl)) ?_; (with_reducible refine (serve_Begin.calls 9 4096 5 t293 t294 t295 t296 t297 t298 t299 t300 _ A1.out).mono ?_); rintro e w13 ⟨rfl, hb⟩; refine ⟨_, rfl, ?_⟩; have n0_ := Aside0.mk (below_step (by repeat (first | (with_reducible first | exact HB.out | apply below_alloc | apply pw_below_drewN | apply below_drew1) | exact HB.out)) hb); clear HB; have HB := n0_; clear n0_; (try clear hb); (try clear hb2); (try clear hk); (try clear hi)) | ((with_reducible refine gate_dst (N := 1) rfl ?_); (try (refine gate_guard (by rfl) ?_; dsimp only)); refine box_event ?hg (N := 1) ?hd (cs := #[.int .i64 0, .int .i64 0, .int .i64 0, .int .i64 0, .string (⟨#[]⟩ : ByteArray), .string (⟨#[]⟩ : ByteArray), .string (⟨#[]⟩ : ByteArray)]) (t := 43) ?hr ?_; (case hd => rfl); (case hg => rfl); (case hr => first | (go_simp; done) | (go_simp; rfl)); intro gb301 hg w14 hbox hb; have n0_ := Aside0.mk (below_step (by repeat (first | (with_reducible first | exact HB.out | apply below_alloc | apply pw_below_drewN | apply below_drew1) | exact HB.out)) hb); have n1_ := Aside0.mk (hbox); have n2_ := Aside0.mk ((by rw [hg]; exact (below_size (by repeat (first | (with_reducible first | exact HB.out | apply below_alloc | apply pw_below_drewN | apply below_drew1) | exact HB.out))) : w.heap.size ≤ gb301)); have n3_ := Aside0.mk ((by rw [hg]; exact (below_size (by repeat (first | (with_reducible first | exact HB.out | apply below_alloc | apply pw_below_drewN | apply below_drew1) | exact HB.out))) : w.heap.size ≤ gb301)); clear HB; have HB := n0_; have BK301 := n1_; have GW301 := n2_; have GE301 := n3_; clear n0_ n1_ n2_ n3_; clear hb hbox hg; have hcz15_0 : w14.cell? ⟨gb301, 0, none⟩ = some (.int .i64 0) := (blk_cell BK301.out 0).trans rfl; have hcz15_1 : w14.cell? ⟨gb301, 1, none⟩ = some (.int .i64 0) := (blk_cell BK301.out 1).trans rfl; have hcz15_2 : w14.cell? ⟨gb301, 2, none⟩ = some (.int .i64 0) := (blk_cell BK301.out 2).trans rfl; have hcz15_3 : w14.cell? ⟨gb301, 3, none⟩ = some (.int .i64 0) := (blk_cell BK301.out 3).trans rfl; have hcz15_4 : w14.cell? ⟨gb301, 4, none⟩ = some (.string (⟨#[]⟩ : ByteArray)) := (blk_cell BK301.out 4).trans rfl; have hcz15_5 : w14.cell? ⟨gb301, 5, none⟩ = some (.string (⟨#[]⟩ : ByteArray)) := (blk_cell BK301.out 5).trans rfl; have hcz15_6 : w14.cell? ⟨gb301, 6, none⟩ = some (.string (⟨#[]⟩ : ByteArray)) := (blk_cell BK301.out 6).trans rfl; have hfz15_0 := blk_frozen BK301.out 0; have hfz15_1 := blk_frozen BK301.out 1; have hfz15_2 := blk_frozen BK301.out 2; have hfz15_3 := blk_frozen BK301.out 3; have hfz15_4 := blk_frozen BK301.out 4; have hfz15_5 := blk_frozen BK301.out 5; have hfz15_6 := blk_frozen BK301.out 6) | ((with_reducible refine gate_callee (f := 26) rfl ?_); refine goesL_ (some 15) rfl rfl Tryd.func26 (by kernel_rfl) rfl #[.agg #[.int .i64 t293, .int .i64 t294, .int .i64 t295, .int .i64 t296, .string t297, .string t298, .string t299]] rfl (by (try simp only [List.map_toArray, List.map_cons, List.map_nil]); first | done | rfl | (simp only [List.length_drop, List.length_take]; rfl)) ?_; (with_reducible refine (serve_Greet.calls t293 t294 t295 t296 t297 t298 t299 t302 t303 t304 t305 t306 t307 t308 t309 t312 _ A2.out).mono ?_); rintro e w16 ⟨v310, rfl, ho0, hb⟩; refine ⟨_, rfl, ?_⟩; have n0_ := Aside0.mk (Kd.N_lower (Kd.N_mono (ok' := fun k_ => k_ ≠ gb301) ho0 (fun k_ hk_ => (Kd.freshB (g := gb301) (o := .cells #[.int .i64 t293, .int .i64 t294, .int .i64 t295, .int .i64 t296, .string t297, .string t298, .string t299] 43 (0, 0)) (by (with_reducible repeat (first | refine blk_drewN ?_ _ | refine blk_drew ?_ | refine blk_alloc ?_ _)); refine blk_put (cs := #[.int .i64 t293, .int .i64 t294, .int .i64 t295, .int .i64 t296, .string t297, .string t298, .string (⟨#[]⟩ : ByteArray)]) ?_ 6 _ rfl; (with_reducible repeat (first | refine blk_drewN ?_ _ | refine blk_drew ?_ | refine blk_alloc ?_ _)); refine blk_put (cs := #[.int .i64 t293, .int .i64 t294, .int .i64 t295, .int .i64 t296, .string t297, .string (⟨#[]⟩ : ByteArray), .string (⟨#[]⟩ : ByteArray)]) ?_ 5 _ rfl; (with_reducible repeat (first | refine blk_drewN ?_ _ | refine blk_drew ?_ | refine blk_alloc ?_ _)); refine blk_put (cs := #[.int .i64 t293, .int .i64 t294, .int .i64 t295, .int .i64 t296, .string (⟨#[]⟩ : ByteArray), .string (⟨#[]⟩ : ByteArray), .string (⟨#[]⟩ : ByteArray)]) ?_ 4 _ rfl; (with_reducible repeat (first | refine blk_drewN ?_ _ | refine blk_drew ?_ | refine blk_alloc ?_ _)); refine blk_put (cs := #[.int .i64 t293, .int .i64 t294, .int .i64 t295, .int .i64 0, .string (⟨#[]⟩ : ByteArray), .string (⟨#[]⟩ : ByteArray), .string (⟨#[]⟩ : ByteArray)]) ?_ 3 _ rfl; (with_reducible repeat (first | refine blk_drewN ?_ _ | refine blk_drew ?_ | refine blk_alloc ?_ _)); refine blk_put (cs := #[.int .i64 t293, .int .i64 t294, .int .i64 0, .int .i64 0, .string (⟨#[]⟩ : ByteArray), .string (⟨#[]⟩ : ByteArray), .string (⟨#[]⟩ : ByteArray)]) ?_ 2 _ rfl; (with_reducible repeat (first | refine blk_drewN ?_ _ | refine blk_drew ?_ | refine blk_alloc ?_ _)); refine blk_put (cs := #[.int .i64 t293, .int .i64 0, .int .i64 0, .int .i64 0, .string (⟨#[]⟩ : ByteArray), .string (⟨#[]⟩ : ByteArray), .string (⟨#[]⟩ : ByteArray)]) ?_ 1 _ rfl; (with_reducible repeat (first | refine blk_drewN ?_ _ | refine blk_drew ?_ | refine blk_alloc ?_ _)); refine blk_put (cs := #[.int .i64 0, .int .i64 0, .int .i64 0, .int .i64 0, .string (⟨#[]⟩ : ByteArray), .string (⟨#[]⟩ : ByteArray), .string (⟨#[]⟩ : ByteArray)]) ?_ 0 _ rfl; (with_reducible repeat (first | refine blk_drewN ?_ _ | refine blk_drew ?_ | refine blk_alloc ?_ _)); exact BK301.out) k_ hk_))) (below_size (by repeat (first | (with_reducible first | exact HB.out | apply below_alloc | apply pw_below_drewN | apply below_drew1 | refine below_set ?_ GE301.out) | exact HB.out)))); have n1_ := Aside0.mk (blk_below (g := gb301) (o := .cells #[.int .i64 t293, .int .i64 t294, .int .i64 t295, .int .i64 t296, .string t297, .string t298, .string t299] 43 (0, 0)) (by (with_reducible repeat (first | refine blk_drewN ?_ _ | refine blk_drew ?_ | refine blk_alloc ?_ _)); refine blk_put (cs := #[.int .i64 t293, .int .i64 t294, .int .i64 t295, .int .i64 t296, .string t297, .string t298, .string (⟨#[]⟩ : ByteArray)]) ?_ 6 _ rfl; (with_reducible repeat (first | refine blk_drewN ?_ _ | refine blk_drew ?_ | refine blk_alloc ?_ _)); refine blk_put (cs := #[.int .i64 t293, .int .i64 t294, .int .i64 t295, .int .i64 t296, .string t297, .string (⟨#[]⟩ : ByteArray), .string (⟨#[]⟩ : ByteArray)]) ?_ 5 _ rfl; (with_reducible repeat (first | refine blk_drewN ?_ _ | refine blk_drew ?_ | refine blk_alloc ?_ _)); refine blk_put (cs := #[.int .i64 t293, .int .i64 t294, .int .i64 t295, .int .i64 t296, .string (⟨#[]⟩ : ByteArray), .string (⟨#[]⟩ : ByteArray), .string (⟨#[]⟩ : ByteArray)]) ?_ 4 _ rfl; (with_reducible repeat (first | refine blk_drewN ?_ _ | refine blk_drew ?_ | refine blk_alloc ?_ _)); refine blk_put (cs := #[.int .i64 t293, .int .i64 t294, .int .i64 t295, .int .i64 0, .string (⟨#[]⟩ : ByteArray), .string (⟨#[]⟩ : ByteArray), .string (⟨#[]⟩ : ByteArray)]) ?_ 3 _ rfl; (with_reducible repeat (first | refine blk_drewN ?_ _ | refine blk_drew ?_ | refine blk_alloc ?_ _)); refine blk_put (cs := #[.int .i64 t293, .int .i64 t294, .int .i64 0, .int .i64 0, .string (⟨#[]⟩ : ByteArray), .string (⟨#[]⟩ : ByteArray), .string (⟨#[]⟩ : ByteArray)]) ?_ 2 _ rfl; (with_reducible repeat (first | refine blk_drewN ?_ _ | refine blk_drew ?_ | refine blk_alloc ?_ _)); refine blk_put (cs := #[.int .i64 t293, .int .i64 0, .int .i64 0, .int .i64 0, .string (⟨#[]⟩ : ByteArray), .string (⟨#[]⟩ : ByteArray), .string (⟨#[]⟩ : ByteArray)]) ?_ 1 _ rfl; (with_reducible repeat (first | refine blk_drewN ?_ _ | refine blk_drew ?_ | refine blk_alloc ?_ _)); refine blk_put (cs := #[.int .i64 0, .int .i64 0, .int .i64 0, .int .i64 0, .string (⟨#[]⟩ : ByteArray), .string (⟨#[]⟩ : ByteArray), .string (⟨#[]⟩ : ByteArray)]) ?_ 0 _ rfl; (with_reducible repeat (first | refine blk_drewN ?_ _ | refine blk_drew ?_ | refine blk_alloc ?_ _)); exact BK301.out) hb); have n2_ := Aside0.mk (below_step (by repeat (first | (with_reducible first | exact HB.out | apply below_alloc | apply pw_below_drewN | apply below_drew1 | refine below_set ?_ GE301.out) | exact HB.out)) hb); clear BK301; clear HB; have HO311 := n0_; have BK301 := n1_; have HB := n2_; clear n0_ n1_ n2_; (try clear hb); (try clear hb2); (try clear hk); (try clear hi); (try clear ho0); have hcz17_0 : w16.cell? ⟨gb301, 0, none⟩ = some (.int .i64 t293) := (blk_cell BK301.out 0).trans rfl; have hcz17_1 : w16.cell? ⟨gb301, 1, none⟩ = some (.int .i64 t294) := (blk_cell BK301.out 1).trans rfl; have hcz17_2 : w16.cell? ⟨gb301, 2, none⟩ = some (.int .i64 t295) := (blk_cell BK301.out 2).trans rfl; have hcz17_3 : w16.cell? ⟨gb301, 3, none⟩ = some (.int .i64 t296) := (blk_cell BK301.out 3).trans rfl; have hcz17_4 : w16.cell? ⟨gb301, 4, none⟩ = some (.string t297) := (blk_cell BK301.out 4).trans rfl; have hcz17_5 : w16.cell? ⟨gb301, 5, none⟩ = some (.string t298) := (blk_cell BK301.out 5).trans rfl; have hcz17_6 : w16.cell? ⟨gb301, 6, none⟩ = some (.string t299) := (blk_cell BK301.out 6).trans rfl; have hfz17_0 := blk_frozen BK301.out 0; have hfz17_1 := blk_frozen BK301.out 1; have hfz17_2 := blk_frozen BK301.out 2; have hfz17_3 := blk_frozen BK301.out 3; have hfz17_4 := blk_frozen BK301.out 4; have hfz17_5 := blk_frozen BK301.out 5; have hfz17_6 := blk_frozen BK301.out 6))
                  have n0_ : Aside0 (Kd.N k24 24 (((((((w16.setCell ⟨gb301, 0, none⟩ (.int .i64 t302)).setCell ⟨gb301, 1, none⟩ (.int .i64 t303)).setCell ⟨gb301, 2, none⟩ (.int .i64 t304)).setCell ⟨gb301, 3, none⟩ (.int .i64 t305)).setCell ⟨gb301, 4, none⟩ (.string t306)).setCell ⟨gb301, 5, none⟩ (.string t307)).setCell ⟨gb301, 6, none⟩ (.string t308)) w.heap.size (fun k_ => k_ ≠ gb301) v310 t309) := ⟨by (with_reducible repeat (first | apply Kd.N_alloc | apply Kd.N_drewN | apply Kd.N_drew)); exact Kd.N_mono (Kd.N_far (p := ⟨gb301, 6, none⟩) (Kd.N_far (p := ⟨gb301, 5, none⟩) (Kd.N_far (p := ⟨gb301, 4, none⟩) (Kd.N_far (p := ⟨gb301, 3, none⟩) (Kd.N_far (p := ⟨gb301, 2, none⟩) (Kd.N_far (p := ⟨gb301, 1, none⟩) (Kd.N_far (p := ⟨gb301, 0, none⟩) (Kd.N_mono HO311.out (fun k_ hk => (⟨hk, hk⟩ : _ ∧ k_ ≠ gb301))) (fun _ hk => hk.2) (.int .i64 t302)) (fun _ hk => hk.2) (.int .i64 t303)) (fun _ hk => hk.2) (.int .i64 t304)) (fun _ hk => hk.2) (.int .i64 t305)) (fun _ hk => hk.2) (.string t306)) (fun _ hk => hk.2) (.string t307)) (fun _ hk => hk.2) (.string t308)) (fun _ hk => hk.1)⟩
                  have n1_ : Aside0 ((((((((w16.setCell ⟨gb301, 0, none⟩ (.int .i64 t302)).setCell ⟨gb301, 1, none⟩ (.int .i64 t303)).setCell ⟨gb301, 2, none⟩ (.int .i64 t304)).setCell ⟨gb301, 3, none⟩ (.int .i64 t305)).setCell ⟨gb301, 4, none⟩ (.string t306)).setCell ⟨gb301, 5, none⟩ (.string t307)).setCell ⟨gb301, 6, none⟩ (.string t308)).heap[gb301]? = some (.cells #[.int .i64 t302, .int .i64 t303, .int .i64 t304, .int .i64 t305, .string t306, .string t307, .string t308] 43 (0, 0))) := ⟨by (with_reducible repeat (first | refine blk_drewN ?_ _ | refine blk_drew ?_ | refine blk_alloc ?_ _)); refine blk_put (cs := #[.int .i64 t302, .int .i64 t303, .int .i64 t304, .int .i64 t305, .string t306, .string t307, .string t299]) ?_ 6 _ rfl; (with_reducible repeat (first | refine blk_drewN ?_ _ | refine blk_drew ?_ | refine blk_alloc ?_ _)); refine blk_put (cs := #[.int .i64 t302, .int .i64 t303, .int .i64 t304, .int .i64 t305, .string t306, .string t298, .string t299]) ?_ 5 _ rfl; (with_reducible repeat (first | refine blk_drewN ?_ _ | refine blk_drew ?_ | refine blk_alloc ?_ _)); refine blk_put (cs := #[.int .i64 t302, .int .i64 t303, .int .i64 t304, .int .i64 t305, .string t297, .string t298, .string t299]) ?_ 4 _ rfl; (with_reducible repeat (first | refine blk_drewN ?_ _ | refine blk_drew ?_ | refine blk_alloc ?_ _)); refine blk_put (cs := #[.int .i64 t302, .int .i64 t303, .int .i64 t304, .int .i64 t296, .string t297, .string t298, .string t299]) ?_ 3 _ rfl; (with_reducible repeat (first | refine blk_drewN ?_ _ | refine blk_drew ?_ | refine blk_alloc ?_ _)); refine blk_put (cs := #[.int .i64 t302, .int .i64 t303, .int .i64 t295, .int .i64 t296, .string t297, .string t298, .string t299]) ?_ 2 _ rfl; (with_reducible repeat (first | refine blk_drewN ?_ _ | refine blk_drew ?_ | refine blk_alloc ?_ _)); refine blk_put (cs := #[.int .i64 t302, .int .i64 t294, .int .i64 t295, .int .i64 t296, .string t297, .string t298, .string t299]) ?_ 1 _ rfl; (with_reducible repeat (first | refine blk_drewN ?_ _ | refine blk_drew ?_ | refine blk_alloc ?_ _)); refine blk_put (cs := #[.int .i64 t293, .int .i64 t294, .int .i64 t295, .int .i64 t296, .string t297, .string t298, .string t299]) ?_ 0 _ rfl; (with_reducible repeat (first | refine blk_drewN ?_ _ | refine blk_drew ?_ | refine blk_alloc ?_ _)); exact BK301.out⟩
                  have n2_ : Aside0 (Below w.heap.size w (((((((w16.setCell ⟨gb301, 0, none⟩ (.int .i64 t302)).setCell ⟨gb301, 1, none⟩ (.int .i64 t303)).setCell ⟨gb301, 2, none⟩ (.int .i64 t304)).setCell ⟨gb301, 3, none⟩ (.int .i64 t305)).setCell ⟨gb301, 4, none⟩ (.string t306)).setCell ⟨gb301, 5, none⟩ (.string t307)).setCell ⟨gb301, 6, none⟩ (.string t308))) := ⟨by repeat (first | (with_reducible first | exact HB.out | apply below_alloc | apply pw_below_drewN | apply below_drew1 | refine below_set ?_ GE301.out) | exact HB.out)⟩
                  (try clear HO311)
                  (try clear BK301)
                  (try clear HB)
                  generalize (((((((w16.setCell ⟨gb301, 0, none⟩ (.int .i64 t302)).setCell ⟨gb301, 1, none⟩ (.int .i64 t303)).setCell ⟨gb301, 2, none⟩ (.int .i64 t304)).setCell ⟨gb301, 3, none⟩ (.int .i64 t305)).setCell ⟨gb301, 4, none⟩ (.string t306)).setCell ⟨gb301, 5, none⟩ (.string t307)).setCell ⟨gb301, 6, none⟩ (.string t308)) = w18 at n0_ n1_ n2_ ⊢
                  have HO311 := n0_
                  have BK301 := n1_
                  have HB := n2_
                  clear n0_ n1_ n2_
                  have n0_ := Aside0.mk (Kd.N_drew HO311.out)
                  have n1_ := Aside0.mk (blk_drew BK301.out)
                  have n2_ := Aside0.mk (below_drew1 HB.out)
                  clear HO311
                  clear BK301
                  clear HB
                  have HO311 := n0_
                  have BK301 := n1_
                  have HB := n2_
                  clear n0_ n1_ n2_
                  refine start_ (n := 17) (S := fun w' => w'.cell? ⟨gb301, 0, none⟩ = some (.int .i64 t302) ∧ w'.cell? ⟨gb301, 1, none⟩ = some (.int .i64 t303) ∧ w'.cell? ⟨gb301, 2, none⟩ = some (.int .i64 t304) ∧ w'.cell? ⟨gb301, 3, none⟩ = some (.int .i64 t305) ∧ w'.cell? ⟨gb301, 4, none⟩ = some (.string t306) ∧ w'.cell? ⟨gb301, 5, none⟩ = some (.string t307) ∧ w'.cell? ⟨gb301, 6, none⟩ = some (.string t308)) (ds := []) #[false, false, false, false, false, false, false, false, false, false, false, false, false, false, false, false, false] (by kernel_rfl) rfl rfl ⟨(blk_cell BK301.out 0).trans rfl, (blk_cell BK301.out 1).trans rfl, (blk_cell BK301.out 2).trans rfl, (blk_cell BK301.out 3).trans rfl, (blk_cell BK301.out 4).trans rfl, (blk_cell BK301.out 5).trans rfl, (blk_cell BK301.out 6).trans rfl⟩ (fun hHeld => ?_); refine with_tabW shown10p.tab3 shown10p.bits3 (fun HT_ HW_ => ?_)
                  generalize w18.drew = w19 at HO311 BK301 HB hHeld ⊢
                  refine pure_ (i := 3) (N := some 23) (v := ?_) (a' := ?_) #[false, false, false, true, false, false, false, false, false, false, false, false, false, false, false, false, false] rfl rfl (any_of HT_.out (by kernel_rfl)) (fun _ _ _ h => h) (Or.inl ⟨by rfl, ?_⟩) ?_ ?_
                  rotate_left
                  · intro w'
                    go_simp
                    with_reducible rfl
                  rotate_left
                  · simp only [Act.put, List.setIfInBounds_toArray, List.set_cons_zero, List.set_cons_succ, i64_w, i32_w]
                    rfl
                  refine pure_ (i := 4) (N := some 24) (v := ?_) (a' := ?_) #[false, false, false, true, true, false, false, false, false, false, false, false, false, false, false, false, false] rfl rfl (any_of HT_.out (by kernel_rfl)) (fun _ _ _ h => h) (Or.inl ⟨by rfl, ?_⟩) ?_ ?_
                  rotate_left
                  · intro w'
                    go_simp
                    with_reducible rfl
                  rotate_left
                  · simp only [Act.put, List.setIfInBounds_toArray, List.set_cons_zero, List.set_cons_succ, i64_w, i32_w]
                    rfl
                  refine pure_ (i := 5) (N := some 25) (v := ?_) (a' := ?_) #[false, false, false, true, true, true, false, false, false, false, false, false, false, false, false, false, false] rfl rfl (any_of HT_.out (by kernel_rfl)) (fun _ _ _ h => h) (Or.inl ⟨by rfl, ?_⟩) ?_ ?_
                  rotate_left
                  · intro w'
                    go_simp
                    with_reducible rfl
                  rotate_left
                  · simp only [Act.put, List.setIfInBounds_toArray, List.set_cons_zero, List.set_cons_succ, i64_w, i32_w]
                    rfl
                  refine take_ (i := 0) (N := some 20) (v := ?_) (a' := ?_) #[true, false, false, true, true, true, false, false, false, false, false, false, false, false, false, false, false] rfl rfl (take_ofW HT_.out HW_.out (by kernel_rfl)) (fun _ _ _ h => h) (Or.inl ⟨by rfl, ?_⟩) hHeld ?_ ?_
                  rotate_left
                  · rintro w' ⟨s0, s1, s2, s3, s4, s5, s6⟩
                    go_simp
                    with_reducible rfl
                  rotate_left
                  · simp only [Act.put, List.setIfInBounds_toArray, List.set_cons_zero, List.set_cons_succ, i64_w, i32_w]
                    rfl
                  refine join_ (σ := Value × Value × Nat) 3 #[true, true, true, true, true, true, true, true, true, true, true, true, true, true, false, false, false] (fun s_ => [(21, .string t313), (26, s_.1), (28, .tuple #[.agg #[.int .i64 t317, .int .i64 t318, .int .i64 t319, .int .i64 t320, .string t321, .string t322, .string t323], s_.2.1, .int .i64 t327]), (5, .pointer (some ⟨s_.2.2, 0, none⟩)), (22, .agg #[.int .u64 0, .string t313]), (27, .agg #[.int .i64 10, .int .i64 11, s_.1]), (19, .tuple #[.agg #[.int .i64 t317, .int .i64 t318, .int .i64 t319, .int .i64 t320, .string t321, .string t322, .string t323], s_.2.1, .int .i64 t327]), (29, .agg #[.int .i64 t317, .int .i64 t318, .int .i64 t319, .int .i64 t320, .string t321, .string t322, .string t323]), (30, s_.2.1), (31, .int .i64 t327)]) (fun s_ w' => (w'.cell? ⟨gb301, 0, none⟩ = some (.int .i64 t302) ∧ w'.cell? ⟨gb301, 1, none⟩ = some (.int .i64 t303) ∧ w'.cell? ⟨gb301, 2, none⟩ = some (.int .i64 t304) ∧ w'.cell? ⟨gb301, 3, none⟩ = some (.int .i64 t305) ∧ w'.cell? ⟨gb301, 4, none⟩ = some (.string t306) ∧ w'.cell? ⟨gb301, 5, none⟩ = some (.string t307) ∧ w'.cell? ⟨gb301, 6, none⟩ = some (.string t308)) ∧ (Kd.N k24 24 w' w.heap.size (fun k_ => some k_ ≠ (s_.1 : Value).ownBlock ∧ some k_ ≠ (s_.2.1 : Value).ownBlock ∧ k_ ≠ gb301 ∧ k_ ≠ s_.2.2) v310 t309) ∧ (Kd.R k56 56 w' w.heap.size (fun _ => True) s_.1 y314) ∧ (Kd.N k24 24 w' w.heap.size (fun k_ => some k_ ≠ (v310 : Value).ownBlock ∧ some k_ ≠ (s_.1 : Value).ownBlock ∧ k_ ≠ gb301 ∧ k_ ≠ s_.2.2) s_.2.1 t324) ∧ (w'.heap[gb301]? = some (.cells #[.int .i64 t302, .int .i64 t303, .int .i64 t304, .int .i64 t305, .string t306, .string t307, .string t308] 43 (0, 0))) ∧ (w'.heap[s_.2.2]? = some (.cells #[.int .i64 0, .int .i64 0, .int .i64 0, .int .i64 0, .string (⟨#[]⟩ : ByteArray), .string (⟨#[]⟩ : ByteArray), .string (⟨#[]⟩ : ByteArray)] 43 (0, 0))) ∧ (w.heap.size ≤ s_.2.2) ∧ (w.heap.size ≤ s_.2.2) ∧ (gb301 ≠ s_.2.2) ∧ (s_.2.2 ≠ gb301) ∧ (Below w.heap.size w w')) ?_ ?_
                  rotate_left
                  · intro hCont
                    refine two_ (i := 1) (j := 13) (Ni := some 21) (Nj := some 5) #[true, true, false, true, true, true, false, false, false, false, false, false, false, false, false, false, false] #[true, false, false, true, true, true, false, false, false, false, false, false, false, true, false, false, false] rfl rfl rfl rfl (two_of HT_.out (by kernel_rfl)) (by decide) (by decide) (fun K hK => ?_) (fun K hK => ?_)
                    · skip
                      refine goes_ Tryd.func58 (by kernel_rfl) rfl #[] (by rfl) rfl rfl (by (try simp only [List.map_toArray, List.map_cons, List.map_nil]); first | done | rfl | (simp only [List.length_drop, List.length_take]; rfl)) ?_
                      with_reducible refine (serve_Empty.calls  t313 _ A3.out).mono ?_
                      rintro e w' ⟨rfl, ⟨nd, rfl⟩⟩
                      refine ⟨_, rfl, ?_⟩
                      refine hK.out _ _ ⟨(blk_cell BK301.out 0).trans rfl, (blk_cell BK301.out 1).trans rfl, (blk_cell BK301.out 2).trans rfl, (blk_cell BK301.out 3).trans rfl, (blk_cell BK301.out 4).trans rfl, (blk_cell BK301.out 5).trans rfl, (blk_cell BK301.out 6).trans rfl⟩ (fun hHeld => ?_)
                      clear hK K
                      refine norm_ (a' := ?_) ?_ ?_
                      rotate_left
                      · show Act.put _ (some 21) _ = _
                        simp only [Act.put, List.setIfInBounds_toArray, List.set_cons_zero, List.set_cons_succ, i64_w, i32_w]
                        rfl
                      refine pure_ (i := 2) (N := some 22) (v := ?_) (a' := ?_) #[true, true, true, true, true, true, false, false, false, false, false, false, false, false, false, false, false] rfl rfl (any_of HT_.out (by kernel_rfl)) (fun _ _ _ h => h) (Or.inl ⟨by rfl, ?_⟩) ?_ ?_
                      rotate_left
                      · intro w'
                        go_simp
                        with_reducible rfl
                      rotate_left
                      · simp only [Act.put, List.setIfInBounds_toArray, List.set_cons_zero, List.set_cons_succ, i64_w, i32_w]
                        rfl
                      refine two_ (i := 6) (j := 13) (Ni := some 26) (Nj := some 5) #[true, true, true, true, true, true, true, false, false, false, false, false, false, false, false, false, false] #[true, true, true, true, true, true, false, false, false, false, false, false, false, true, false, false, false] rfl rfl rfl rfl (two_of HT_.out (by kernel_rfl)) (by decide) (by decide) (fun K hK => ?_) (fun K hK => ?_)
                      · skip
                        refine Kd.R_lit_step k56 _ 56 ?hg (N := 26) ?hd (xs := ([(⟨0, t313⟩ : S56), (⟨0, (⟨#[80, 76, 65, 73, 78]⟩ : ByteArray)⟩ : S56), (⟨0, (⟨#[0, 117, 0, 112]⟩ : ByteArray)⟩ : S56), (⟨0, (⟨#[101, 110, 95, 85, 83]⟩ : ByteArray)⟩ : S56)] : List (S56))) (inner := [.int .u64 0, .string t313, .int .u64 0, .string (⟨#[80, 76, 65, 73, 78]⟩ : ByteArray), .int .u64 0, .string (⟨#[0, 117, 0, 112]⟩ : ByteArray), .int .u64 0, .string (⟨#[101, 110, 95, 85, 83]⟩ : ByteArray)]) (ok := fun _ => True) (okp := fun _ => True) ?hr ?hp (fun _ hk => hk) trivial (Below.refl _ _) (Nat.le_refl _) (by simp) ?_; (case hd => rfl); (case hg => rfl); (case hr => first | (go_simp; done) | (go_simp; rfl)); (case hp => exact (Reps.c2 (show Kd.M k56 _ _ _ (⟨0, t313⟩ : S56) [.int .u64 0, .string t313] from (k56_mkM _ _ _ (⟨0, t313⟩ : S56) )) (Reps.c2 (show Kd.M k56 _ _ _ (⟨0, (⟨#[80, 76, 65, 73, 78]⟩ : ByteArray)⟩ : S56) [.int .u64 0, .string (⟨#[80, 76, 65, 73, 78]⟩ : ByteArray)] from (k56_mkM _ _ _ (⟨0, (⟨#[80, 76, 65, 73, 78]⟩ : ByteArray)⟩ : S56) )) (Reps.c2 (show Kd.M k56 _ _ _ (⟨0, (⟨#[0, 117, 0, 112]⟩ : ByteArray)⟩ : S56) [.int .u64 0, .string (⟨#[0, 117, 0, 112]⟩ : ByteArray)] from (k56_mkM _ _ _ (⟨0, (⟨#[0, 117, 0, 112]⟩ : ByteArray)⟩ : S56) )) (Reps.c2 (show Kd.M k56 _ _ _ (⟨0, (⟨#[101, 110, 95, 85, 83]⟩ : ByteArray)⟩ : S56) [.int .u64 0, .string (⟨#[101, 110, 95, 85, 83]⟩ : ByteArray)] from (k56_mkM _ _ _ (⟨0, (⟨#[101, 110, 95, 85, 83]⟩ : ByteArray)⟩ : S56) )) (Reps.none _ _))))))
                        intro v315 w20 ho21 hb hg_ hnew_
                        clear hg_ hnew_
                        (first | rw [← Ny314.out] at ho21 | (simp only [Int.reduceToNat] at ho21; rw [← Ny314.out] at ho21))
                        have n0_ := Aside0.mk (Kd.N_elder' (by (with_reducible repeat (first | apply Kd.N_alloc | apply Kd.N_drewN | apply Kd.N_drew)); exact HO311.out) (Kd.R_base ho21) hb)
                        have n1_ := Aside0.mk (Kd.R_lower ho21 (below_size (by repeat (first | (with_reducible first | exact HB.out | apply below_alloc | apply pw_below_drewN | apply below_drew1 | refine below_set ?_ GE301.out) | exact HB.out))))
                        have n2_ := Aside0.mk (blk_below (g := gb301) (o := .cells #[.int .i64 t302, .int .i64 t303, .int .i64 t304, .int .i64 t305, .string t306, .string t307, .string t308] 43 (0, 0)) (by (with_reducible repeat (first | refine blk_drewN ?_ _ | refine blk_drew ?_ | refine blk_alloc ?_ _)); exact BK301.out) hb)
                        have n3_ := Aside0.mk (below_step (by repeat (first | (with_reducible first | exact HB.out | apply below_alloc | apply pw_below_drewN | apply below_drew1 | refine below_set ?_ GE301.out) | exact HB.out)) hb)
                        clear HO311
                        clear BK301
                        clear HB
                        have HO311 := n0_
                        have HO316 := n1_
                        have BK301 := n2_
                        have HB := n3_
                        clear n0_ n1_ n2_ n3_
                        clear hb ho21
                        obtain ⟨Ao22, co22, eo22⟩ := Kd.R_slice HO316.out
                        (first | subst eo22 | (injection eo22 with f1_ f2_ f3_; have f4_ := f1_.symm; have f5_ := f3_.symm; clear f1_ f2_ f3_; subst f4_; subst f5_))
                        refine hK.out _ _ ⟨(blk_cell BK301.out 0).trans rfl, (blk_cell BK301.out 1).trans rfl, (blk_cell BK301.out 2).trans rfl, (blk_cell BK301.out 3).trans rfl, (blk_cell BK301.out 4).trans rfl, (blk_cell BK301.out 5).trans rfl, (blk_cell BK301.out 6).trans rfl⟩ (fun hHeld => ?_)
                        clear hK K
                        refine norm_ (a' := ?_) ?_ ?_
                        rotate_left
                        · show Act.put _ (some 26) _ = _
                          simp only [Act.put, List.setIfInBounds_toArray, List.set_cons_zero, List.set_cons_succ, i64_w, i32_w]
                          rfl
                        refine pure_ (i := 7) (N := some 27) (v := ?_) (a' := ?_) #[true, true, true, true, true, true, true, true, false, false, false, false, false, false, false, false, false] rfl rfl (any_of HT_.out (by kernel_rfl)) (fun _ _ _ h => h) (Or.inl ⟨by rfl, ?_⟩) ?_ ?_
                        rotate_left
                        · intro w'
                          go_simp
                          with_reducible rfl
                        rotate_left
                        · simp only [Act.put, List.setIfInBounds_toArray, List.set_cons_zero, List.set_cons_succ, i64_w, i32_w]
                          rfl
                        refine two_ (i := 8) (j := 13) (Ni := some 28) (Nj := some 5) #[true, true, true, true, true, true, true, true, true, false, false, false, false, false, false, false, false] #[true, true, true, true, true, true, true, true, false, false, false, false, false, true, false, false, false] rfl rfl rfl rfl (two_of HT_.out (by kernel_rfl)) (by decide) (by decide) (fun K hK => ?_) (fun K hK => ?_)
                        · skip
                          refine goes_ Tryd.func28 (by kernel_rfl) rfl #[.agg #[.int .i64 t302, .int .i64 t303, .int .i64 t304, .int .i64 t305, .string t306, .string t307, .string t308], .agg #[.int .i64 10, .int .i64 11, .slice Ao22 y314.length co22]] (by rfl) rfl rfl (by (try simp only [List.map_toArray, List.map_cons, List.map_nil]); first | done | rfl | (simp only [List.length_drop, List.length_take]; rfl)) ?_
                          with_reducible refine (serve_Take.calls k t302 t303 t304 t305 t306 t307 t308 10 11 _ _ y314 t317 t318 t319 t320 t321 t322 t323 t324 t327 _ ?side1 ?side2 A4.out).mono ?_
                          (case side1 => repeat (first | exact (Kd.R_reads' HO316.out).2.2 | (with_reducible refine Kd.C_alloc ?_ _) | (with_reducible refine Kd.C_drewN ?_ _) | (with_reducible refine Kd.C_drew ?_)))
                          (case side2 => exact (Kd.R_reads' HO316.out).2.1)
                          rintro e w23 ⟨v325, rfl, ho0, hb⟩
                          refine ⟨_, rfl, ?_⟩
                          have n0_ := Aside0.mk (Kd.N_elder' (by (with_reducible repeat (first | apply Kd.N_alloc | apply Kd.N_drewN | apply Kd.N_drew)); exact HO311.out) (Kd.N_base ho0) hb)
                          have n1_ := Aside0.mk (Kd.R_below (by (with_reducible repeat (first | apply Kd.R_alloc | apply Kd.R_drewN | apply Kd.R_drew)); exact HO316.out) hb)
                          have n2_ := Aside0.mk (Kd.N_lower (Kd.N_mono (ok' := fun k_ => some k_ ≠ (v310 : Value).ownBlock ∧ some k_ ≠ (.slice Ao22 y314.length co22 : Value).ownBlock ∧ k_ ≠ gb301) ho0 (fun k_ hk_ => ⟨(Kd.fresh' (Kd.N_lt (by (with_reducible repeat (first | apply Kd.N_alloc | apply Kd.N_drewN | apply Kd.N_drew)); exact HO311.out)) k_ hk_), (Kd.fresh' (Kd.R_lt (by (with_reducible repeat (first | apply Kd.R_alloc | apply Kd.R_drewN | apply Kd.R_drew)); exact HO316.out)) k_ hk_), (Kd.freshB (g := gb301) (o := .cells #[.int .i64 t302, .int .i64 t303, .int .i64 t304, .int .i64 t305, .string t306, .string t307, .string t308] 43 (0, 0)) (by (with_reducible repeat (first | refine blk_drewN ?_ _ | refine blk_drew ?_ | refine blk_alloc ?_ _)); exact BK301.out) k_ hk_)⟩)) (below_size (by repeat (first | (with_reducible first | exact HB.out | apply below_alloc | apply pw_below_drewN | apply below_drew1 | refine below_set ?_ GE301.out) | exact HB.out))))
                          have n3_ := Aside0.mk (blk_below (g := gb301) (o := .cells #[.int .i64 t302, .int .i64 t303, .int .i64 t304, .int .i64 t305, .string t306, .string t307, .string t308] 43 (0, 0)) (by (with_reducible repeat (first | refine blk_drewN ?_ _ | refine blk_drew ?_ | refine blk_alloc ?_ _)); exact BK301.out) hb)
                          have n4_ := Aside0.mk (below_step (by repeat (first | (with_reducible first | exact HB.out | apply below_alloc | apply pw_below_drewN | apply below_drew1 | refine below_set ?_ GE301.out) | exact HB.out)) hb)
                          clear HO311
                          clear HO316
                          clear BK301
                          clear HB
                          have HO311 := n0_
                          have HO316 := n1_
                          have HO326 := n2_
                          have BK301 := n3_
                          have HB := n4_
                          clear n0_ n1_ n2_ n3_ n4_
                          (try clear hb)
                          (try clear hb2)
                          (try clear hk)
                          (try clear hi)
                          (try clear ho0)
                          refine hK.out _ _ ⟨(blk_cell BK301.out 0).trans rfl, (blk_cell BK301.out 1).trans rfl, (blk_cell BK301.out 2).trans rfl, (blk_cell BK301.out 3).trans rfl, (blk_cell BK301.out 4).trans rfl, (blk_cell BK301.out 5).trans rfl, (blk_cell BK301.out 6).trans rfl⟩ (fun hHeld => ?_)
                          clear hK K
                          refine norm_ (a' := ?_) ?_ ?_
                          rotate_left
                          · show Act.put _ (some 28) _ = _
                            simp only [Act.put, List.setIfInBounds_toArray, List.set_cons_zero, List.set_cons_succ, i64_w, i32_w]
                            rfl
                          refine pure_ (i := 9) (N := some 19) (v := ?_) (a' := ?_) #[true, true, true, true, true, true, true, true, true, true, false, false, false, false, false, false, false] rfl rfl (any_of HT_.out (by kernel_rfl)) (fun _ _ _ h => h) (Or.inl ⟨by rfl, ?_⟩) ?_ ?_
                          rotate_left
                          · intro w'
                            go_simp
                            with_reducible rfl
                          rotate_left
                          · simp only [Act.put, List.setIfInBounds_toArray, List.set_cons_zero, List.set_cons_succ, i64_w, i32_w]
                            rfl
                          refine pure_ (i := 10) (N := some 29) (v := ?_) (a' := ?_) #[true, true, true, true, true, true, true, true, true, true, true, false, false, false, false, false, false] rfl rfl (any_of HT_.out (by kernel_rfl)) (fun _ _ _ h => h) (Or.inl ⟨by rfl, ?_⟩) ?_ ?_
                          rotate_left
                          · intro w'
                            go_simp
                            with_reducible rfl
                          rotate_left
                          · simp only [Act.put, List.setIfInBounds_toArray, List.set_cons_zero, List.set_cons_succ, i64_w, i32_w]
                            rfl
                          refine pure_ (i := 11) (N := some 30) (v := ?_) (a' := ?_) #[true, true, true, true, true, true, true, true, true, true, true, true, false, false, false, false, false] rfl rfl (any_of HT_.out (by kernel_rfl)) (fun _ _ _ h => h) (Or.inl ⟨by rfl, ?_⟩) ?_ ?_
                          rotate_left
                          · intro w'
                            go_simp
                            with_reducible rfl
                          rotate_left
                          · simp only [Act.put, List.setIfInBounds_toArray, List.set_cons_zero, List.set_cons_succ, i64_w, i32_w]
                            rfl
                          refine pure_ (i := 12) (N := some 31) (v := ?_) (a' := ?_) #[true, true, true, true, true, true, true, true, true, true, true, true, true, false, false, false, false] rfl rfl (any_of HT_.out (by kernel_rfl)) (fun _ _ _ h => h) (Or.inl ⟨by rfl, ?_⟩) ?_ ?_
                          rotate_left
                          · intro w'
                            go_simp
                            with_reducible rfl
                          rotate_left
                          · simp only [Act.put, List.setIfInBounds_toArray, List.set_cons_zero, List.set_cons_succ, i64_w, i32_w]
                            rfl
                          refine one_ (i := 13) (N := some 5) #[true, true, true, true, true, true, true, true, true, true, true, true, true, true, false, false, false] rfl rfl (one_of HT_.out (by kernel_rfl)) (by decide) (fun K hK => ?_)
                          refine box_step ?hg (N := 5) ?hd (cs := #[.int .i64 0, .int .i64 0, .int .i64 0, .int .i64 0, .string (⟨#[]⟩ : ByteArray), .string (⟨#[]⟩ : ByteArray), .string (⟨#[]⟩ : ByteArray)]) (t := 43) ?hr ?_; (case hd => rfl); (case hg => rfl); (case hr => first | (go_simp; done) | (go_simp; rfl))
                          intro gb328 hg w24 hbox hb
                          have n0_ := Aside0.mk (Kd.N_below (Kd.N_elderB (by (with_reducible repeat (first | apply Kd.N_alloc | apply Kd.N_drewN | apply Kd.N_drew)); exact HO311.out) gb328 (Nat.le_of_eq hg.symm)) hb)
                          have n1_ := Aside0.mk (Kd.R_below (by (with_reducible repeat (first | apply Kd.R_alloc | apply Kd.R_drewN | apply Kd.R_drew)); exact HO316.out) hb)
                          have n2_ := Aside0.mk (Kd.N_below (Kd.N_elderB (by (with_reducible repeat (first | apply Kd.N_alloc | apply Kd.N_drewN | apply Kd.N_drew)); exact HO326.out) gb328 (Nat.le_of_eq hg.symm)) hb)
                          have n3_ := Aside0.mk (blk_below (g := gb301) (o := .cells #[.int .i64 t302, .int .i64 t303, .int .i64 t304, .int .i64 t305, .string t306, .string t307, .string t308] 43 (0, 0)) (by (with_reducible repeat (first | refine blk_drewN ?_ _ | refine blk_drew ?_ | refine blk_alloc ?_ _)); exact BK301.out) hb)
                          have n4_ := Aside0.mk (below_step (by repeat (first | (with_reducible first | exact HB.out | apply below_alloc | apply pw_below_drewN | apply below_drew1 | refine below_set ?_ GE301.out) | exact HB.out)) hb)
                          have n5_ := Aside0.mk (hbox)
                          have n6_ := Aside0.mk ((by rw [hg]; exact (below_size (by repeat (first | (with_reducible first | exact HB.out | apply below_alloc | apply pw_below_drewN | apply below_drew1 | refine below_set ?_ GE301.out) | exact HB.out))) : w.heap.size ≤ gb328))
                          have n7_ := Aside0.mk ((by rw [hg]; exact (below_size (by repeat (first | (with_reducible first | exact HB.out | apply below_alloc | apply pw_below_drewN | apply below_drew1 | refine below_set ?_ GE301.out) | exact HB.out))) : w.heap.size ≤ gb328))
                          have n8_ := Aside0.mk ((by rw [hg]; exact Nat.ne_of_lt (blk_lt (g := gb301) (o := .cells #[.int .i64 t302, .int .i64 t303, .int .i64 t304, .int .i64 t305, .string t306, .string t307, .string t308] 43 (0, 0)) (by (with_reducible repeat (first | refine blk_drewN ?_ _ | refine blk_drew ?_ | refine blk_alloc ?_ _)); exact BK301.out)) : gb301 ≠ gb328))
                          have n9_ := Aside0.mk ((by rw [hg]; exact Nat.ne_of_gt (blk_lt (g := gb301) (o := .cells #[.int .i64 t302, .int .i64 t303, .int .i64 t304, .int .i64 t305, .string t306, .string t307, .string t308] 43 (0, 0)) (by (with_reducible repeat (first | refine blk_drewN ?_ _ | refine blk_drew ?_ | refine blk_alloc ?_ _)); exact BK301.out)) : gb328 ≠ gb301))
                          clear HO311
                          clear HO316
                          clear HO326
                          clear BK301
                          clear HB
                          have HO311 := n0_
                          have HO316 := n1_
                          have HO326 := n2_
                          have BK301 := n3_
                          have HB := n4_
                          have BK328 := n5_
                          have GW328 := n6_
                          have GE328 := n7_
                          have NB301_328 := n8_
                          have NB328_301 := n9_
                          clear n0_ n1_ n2_ n3_ n4_ n5_ n6_ n7_ n8_ n9_
                          clear hb hbox hg
                          refine hK.out _ _ ⟨(blk_cell BK301.out 0).trans rfl, (blk_cell BK301.out 1).trans rfl, (blk_cell BK301.out 2).trans rfl, (blk_cell BK301.out 3).trans rfl, (blk_cell BK301.out 4).trans rfl, (blk_cell BK301.out 5).trans rfl, (blk_cell BK301.out 6).trans rfl⟩ (fun hHeld => ?_)
                          clear hK K
                          refine norm_ (a' := ?_) ?_ ?_
                          rotate_left
                          · show Act.put _ (some 5) _ = _
                            simp only [Act.put, List.setIfInBounds_toArray, List.set_cons_zero, List.set_cons_succ, i64_w, i32_w]
                            rfl
                          exact norm_ (by simp only [putAll, Act.put, List.setIfInBounds_toArray, List.set_cons_zero, List.set_cons_succ]) (hCont (.slice Ao22 y314.length co22, v325, gb328) _ ⟨hHeld, (by (with_reducible repeat (first | apply Kd.N_alloc | apply Kd.N_drewN | apply Kd.N_drew)); exact Kd.N_mono HO311.out (fun _ hk => ⟨hk.1.1.2, ⟨hk.1.2, ⟨hk.1.1.1, hk.2⟩⟩⟩)), (by (with_reducible repeat (first | apply Kd.R_alloc | apply Kd.R_drewN | apply Kd.R_drew)); exact HO316.out), (by (with_reducible repeat (first | apply Kd.N_alloc | apply Kd.N_drewN | apply Kd.N_drew)); exact Kd.N_mono HO326.out (fun _ hk => ⟨hk.1.1, ⟨hk.1.2.1, ⟨hk.1.2.2, hk.2⟩⟩⟩)), (by (with_reducible repeat (first | refine blk_drewN ?_ _ | refine blk_drew ?_ | refine blk_alloc ?_ _)); exact BK301.out), (by (with_reducible repeat (first | refine blk_drewN ?_ _ | refine blk_drew ?_ | refine blk_alloc ?_ _)); exact BK328.out), GW328.out, GE328.out, NB301_328.out, NB328_301.out, (by repeat (first | (with_reducible first | exact HB.out | apply below_alloc | apply pw_below_drewN | apply below_drew1 | refine below_set ?_ GE301.out | refine below_set ?_ GE328.out) | exact HB.out))⟩)
                        · skip
                          refine box_step ?hg (N := 5) ?hd (cs := #[.int .i64 0, .int .i64 0, .int .i64 0, .int .i64 0, .string (⟨#[]⟩ : ByteArray), .string (⟨#[]⟩ : ByteArray), .string (⟨#[]⟩ : ByteArray)]) (t := 43) ?hr ?_; (case hd => rfl); (case hg => rfl); (case hr => first | (go_simp; done) | (go_simp; rfl))
                          intro gb328 hg w23 hbox hb
                          have n0_ := Aside0.mk (Kd.N_below (Kd.N_elderB (by (with_reducible repeat (first | apply Kd.N_alloc | apply Kd.N_drewN | apply Kd.N_drew)); exact HO311.out) gb328 (Nat.le_of_eq hg.symm)) hb)
                          have n1_ := Aside0.mk (Kd.R_below (by (with_reducible repeat (first | apply Kd.R_alloc | apply Kd.R_drewN | apply Kd.R_drew)); exact HO316.out) hb)
                          have n2_ := Aside0.mk (blk_below (g := gb301) (o := .cells #[.int .i64 t302, .int .i64 t303, .int .i64 t304, .int .i64 t305, .string t306, .string t307, .string t308] 43 (0, 0)) (by (with_reducible repeat (first | refine blk_drewN ?_ _ | refine blk_drew ?_ | refine blk_alloc ?_ _)); exact BK301.out) hb)
                          have n3_ := Aside0.mk (below_step (by repeat (first | (with_reducible first | exact HB.out | apply below_alloc | apply pw_below_drewN | apply below_drew1 | refine below_set ?_ GE301.out) | exact HB.out)) hb)
                          have n4_ := Aside0.mk (hbox)
                          have n5_ := Aside0.mk ((by rw [hg]; exact (below_size (by repeat (first | (with_reducible first | exact HB.out | apply below_alloc | apply pw_below_drewN | apply below_drew1 | refine below_set ?_ GE301.out) | exact HB.out))) : w.heap.size ≤ gb328))
                          have n6_ := Aside0.mk ((by rw [hg]; exact (below_size (by repeat (first | (with_reducible first | exact HB.out | apply below_alloc | apply pw_below_drewN | apply below_drew1 | refine below_set ?_ GE301.out) | exact HB.out))) : w.heap.size ≤ gb328))
                          have n7_ := Aside0.mk ((by rw [hg]; exact Nat.ne_of_lt (blk_lt (g := gb301) (o := .cells #[.int .i64 t302, .int .i64 t303, .int .i64 t304, .int .i64 t305, .string t306, .string t307, .string t308] 43 (0, 0)) (by (with_reducible repeat (first | refine blk_drewN ?_ _ | refine blk_drew ?_ | refine blk_alloc ?_ _)); exact BK301.out)) : gb301 ≠ gb328))
                          have n8_ := Aside0.mk ((by rw [hg]; exact Nat.ne_of_gt (blk_lt (g := gb301) (o := .cells #[.int .i64 t302, .int .i64 t303, .int .i64 t304, .int .i64 t305, .string t306, .string t307, .string t308] 43 (0, 0)) (by (with_reducible repeat (first | refine blk_drewN ?_ _ | refine blk_drew ?_ | refine blk_alloc ?_ _)); exact BK301.out)) : gb328 ≠ gb301))
                          clear HO311
                          clear HO316
                          clear BK301
                          clear HB
                          have HO311 := n0_
                          have HO316 := n1_
                          have BK301 := n2_
                          have HB := n3_
                          have BK328 := n4_
                          have GW328 := n5_
                          have GE328 := n6_
                          have NB301_328 := n7_
                          have NB328_301 := n8_
                          clear n0_ n1_ n2_ n3_ n4_ n5_ n6_ n7_ n8_
                          clear hb hbox hg
                          refine hK.out _ _ ⟨(blk_cell BK301.out 0).trans rfl, (blk_cell BK301.out 1).trans rfl, (blk_cell BK301.out 2).trans rfl, (blk_cell BK301.out 3).trans rfl, (blk_cell BK301.out 4).trans rfl, (blk_cell BK301.out 5).trans rfl, (blk_cell BK301.out 6).trans rfl⟩ (fun hHeld => ?_)
                          clear hK K
                          refine norm_ (a' := ?_) ?_ ?_
                          rotate_left
                          · show Act.put _ (some 5) _ = _
                            simp only [Act.put, List.setIfInBounds_toArray, List.set_cons_zero, List.set_cons_succ, i64_w, i32_w]
                            rfl
                          refine one_ (i := 8) (N := some 28) #[true, true, true, true, true, true, true, true, true, false, false, false, false, true, false, false, false] rfl rfl (one_of HT_.out (by kernel_rfl)) (by decide) (fun K hK => ?_)
                          refine goes_ Tryd.func28 (by kernel_rfl) rfl #[.agg #[.int .i64 t302, .int .i64 t303, .int .i64 t304, .int .i64 t305, .string t306, .string t307, .string t308], .agg #[.int .i64 10, .int .i64 11, .slice Ao22 y314.length co22]] (by rfl) rfl rfl (by (try simp only [List.map_toArray, List.map_cons, List.map_nil]); first | done | rfl | (simp only [List.length_drop, List.length_take]; rfl)) ?_
                          with_reducible refine (serve_Take.calls k t302 t303 t304 t305 t306 t307 t308 10 11 _ _ y314 t317 t318 t319 t320 t321 t322 t323 t324 t327 _ ?side1 ?side2 A4.out).mono ?_
                          (case side1 => repeat (first | exact (Kd.R_reads' HO316.out).2.2 | (with_reducible refine Kd.C_alloc ?_ _) | (with_reducible refine Kd.C_drewN ?_ _) | (with_reducible refine Kd.C_drew ?_)))
                          (case side2 => exact (Kd.R_reads' HO316.out).2.1)
                          rintro e w24 ⟨v325, rfl, ho0, hb⟩
                          refine ⟨_, rfl, ?_⟩
                          have n0_ := Aside0.mk (Kd.N_elder' (by (with_reducible repeat (first | apply Kd.N_alloc | apply Kd.N_drewN | apply Kd.N_drew)); exact HO311.out) (Kd.N_base ho0) hb)
                          have n1_ := Aside0.mk (Kd.R_below (by (with_reducible repeat (first | apply Kd.R_alloc | apply Kd.R_drewN | apply Kd.R_drew)); exact HO316.out) hb)
                          have n2_ := Aside0.mk (Kd.N_lower (Kd.N_mono (ok' := fun k_ => some k_ ≠ (v310 : Value).ownBlock ∧ some k_ ≠ (.slice Ao22 y314.length co22 : Value).ownBlock ∧ k_ ≠ gb301 ∧ k_ ≠ gb328) ho0 (fun k_ hk_ => ⟨(Kd.fresh' (Kd.N_lt (by (with_reducible repeat (first | apply Kd.N_alloc | apply Kd.N_drewN | apply Kd.N_drew)); exact HO311.out)) k_ hk_), (Kd.fresh' (Kd.R_lt (by (with_reducible repeat (first | apply Kd.R_alloc | apply Kd.R_drewN | apply Kd.R_drew)); exact HO316.out)) k_ hk_), (Kd.freshB (g := gb301) (o := .cells #[.int .i64 t302, .int .i64 t303, .int .i64 t304, .int .i64 t305, .string t306, .string t307, .string t308] 43 (0, 0)) (by (with_reducible repeat (first | refine blk_drewN ?_ _ | refine blk_drew ?_ | refine blk_alloc ?_ _)); exact BK301.out) k_ hk_), (Kd.freshB (g := gb328) (o := .cells #[.int .i64 0, .int .i64 0, .int .i64 0, .int .i64 0, .string (⟨#[]⟩ : ByteArray), .string (⟨#[]⟩ : ByteArray), .string (⟨#[]⟩ : ByteArray)] 43 (0, 0)) (by (with_reducible repeat (first | refine blk_drewN ?_ _ | refine blk_drew ?_ | refine blk_alloc ?_ _)); exact BK328.out) k_ hk_)⟩)) (below_size (by repeat (first | (with_reducible first | exact HB.out | apply below_alloc | apply pw_below_drewN | apply below_drew1 | refine below_set ?_ GE301.out | refine below_set ?_ GE328.out) | exact HB.out))))
                          have n3_ := Aside0.mk (blk_below (g := gb301) (o := .cells #[.int .i64 t302, .int .i64 t303, .int .i64 t304, .int .i64 t305, .string t306, .string t307, .string t308] 43 (0, 0)) (by (with_reducible repeat (first | refine blk_drewN ?_ _ | refine blk_drew ?_ | refine blk_alloc ?_ _)); exact BK301.out) hb)
                          have n4_ := Aside0.mk (blk_below (g := gb328) (o := .cells #[.int .i64 0, .int .i64 0, .int .i64 0, .int .i64 0, .string (⟨#[]⟩ : ByteArray), .string (⟨#[]⟩ : ByteArray), .string (⟨#[]⟩ : ByteArray)] 43 (0, 0)) (by (with_reducible repeat (first | refine blk_drewN ?_ _ | refine blk_drew ?_ | refine blk_alloc ?_ _)); exact BK328.out) hb)
                          have n5_ := Aside0.mk (below_step (by repeat (first | (with_reducible first | exact HB.out | apply below_alloc | apply pw_below_drewN | apply below_drew1 | refine below_set ?_ GE301.out | refine below_set ?_ GE328.out) | exact HB.out)) hb)
                          clear HO311
                          clear HO316
                          clear BK301
                          clear BK328
                          clear HB
                          have HO311 := n0_
                          have HO316 := n1_
                          have HO326 := n2_
                          have BK301 := n3_
                          have BK328 := n4_
                          have HB := n5_
                          clear n0_ n1_ n2_ n3_ n4_ n5_
                          (try clear hb)
                          (try clear hb2)
                          (try clear hk)
                          (try clear hi)
                          (try clear ho0)
                          refine hK.out _ _ ⟨(blk_cell BK301.out 0).trans rfl, (blk_cell BK301.out 1).trans rfl, (blk_cell BK301.out 2).trans rfl, (blk_cell BK301.out 3).trans rfl, (blk_cell BK301.out 4).trans rfl, (blk_cell BK301.out 5).trans rfl, (blk_cell BK301.out 6).trans rfl⟩ (fun hHeld => ?_)
                          clear hK K
                          refine norm_ (a' := ?_) ?_ ?_
                          rotate_left
                          · show Act.put _ (some 28) _ = _
                            simp only [Act.put, List.setIfInBounds_toArray, List.set_cons_zero, List.set_cons_succ, i64_w, i32_w]
                            rfl
                          refine pure_ (i := 9) (N := some 19) (v := ?_) (a' := ?_) #[true, true, true, true, true, true, true, true, true, true, false, false, false, true, false, false, false] rfl rfl (any_of HT_.out (by kernel_rfl)) (fun _ _ _ h => h) (Or.inl ⟨by rfl, ?_⟩) ?_ ?_
                          rotate_left
                          · intro w'
                            go_simp
                            with_reducible rfl
                          rotate_left
                          · simp only [Act.put, List.setIfInBounds_toArray, List.set_cons_zero, List.set_cons_succ, i64_w, i32_w]
                            rfl
                          refine pure_ (i := 10) (N := some 29) (v := ?_) (a' := ?_) #[true, true, true, true, true, true, true, true, true, true, true, false, false, true, false, false, false] rfl rfl (any_of HT_.out (by kernel_rfl)) (fun _ _ _ h => h) (Or.inl ⟨by rfl, ?_⟩) ?_ ?_
                          rotate_left
                          · intro w'
                            go_simp
                            with_reducible rfl
                          rotate_left
                          · simp only [Act.put, List.setIfInBounds_toArray, List.set_cons_zero, List.set_cons_succ, i64_w, i32_w]
                            rfl
                          refine pure_ (i := 11) (N := some 30) (v := ?_) (a' := ?_) #[true, true, true, true, true, true, true, true, true, true, true, true, false, true, false, false, false] rfl rfl (any_of HT_.out (by kernel_rfl)) (fun _ _ _ h => h) (Or.inl ⟨by rfl, ?_⟩) ?_ ?_
                          rotate_left
                          · intro w'
                            go_simp
                            with_reducible rfl
                          rotate_left
                          · simp only [Act.put, List.setIfInBounds_toArray, List.set_cons_zero, List.set_cons_succ, i64_w, i32_w]
                            rfl
                          refine pure_ (i := 12) (N := some 31) (v := ?_) (a' := ?_) #[true, true, true, true, true, true, true, true, true, true, true, true, true, true, false, false, false] rfl rfl (any_of HT_.out (by kernel_rfl)) (fun _ _ _ h => h) (Or.inl ⟨by rfl, ?_⟩) ?_ ?_
                          rotate_left
                          · intro w'
                            go_simp
                            with_reducible rfl
                          rotate_left
                          · simp only [Act.put, List.setIfInBounds_toArray, List.set_cons_zero, List.set_cons_succ, i64_w, i32_w]
                            rfl
                          exact norm_ (by simp only [putAll, Act.put, List.setIfInBounds_toArray, List.set_cons_zero, List.set_cons_succ]) (hCont (.slice Ao22 y314.length co22, v325, gb328) _ ⟨hHeld, (by (with_reducible repeat (first | apply Kd.N_alloc | apply Kd.N_drewN | apply Kd.N_drew)); exact Kd.N_mono HO311.out (fun _ hk => ⟨hk.1.1.2, ⟨hk.2, ⟨hk.1.1.1, hk.1.2⟩⟩⟩)), (by (with_reducible repeat (first | apply Kd.R_alloc | apply Kd.R_drewN | apply Kd.R_drew)); exact HO316.out), (by (with_reducible repeat (first | apply Kd.N_alloc | apply Kd.N_drewN | apply Kd.N_drew)); exact HO326.out), (by (with_reducible repeat (first | refine blk_drewN ?_ _ | refine blk_drew ?_ | refine blk_alloc ?_ _)); exact BK301.out), (by (with_reducible repeat (first | refine blk_drewN ?_ _ | refine blk_drew ?_ | refine blk_alloc ?_ _)); exact BK328.out), GW328.out, GE328.out, NB301_328.out, NB328_301.out, (by repeat (first | (with_reducible first | exact HB.out | apply below_alloc | apply pw_below_drewN | apply below_drew1 | refine below_set ?_ GE301.out | refine below_set ?_ GE328.out) | exact HB.out))⟩)
                      · skip
                        refine box_step ?hg (N := 5) ?hd (cs := #[.int .i64 0, .int .i64 0, .int .i64 0, .int .i64 0, .string (⟨#[]⟩ : ByteArray), .string (⟨#[]⟩ : ByteArray), .string (⟨#[]⟩ : ByteArray)]) (t := 43) ?hr ?_; (case hd => rfl); (case hg => rfl); (case hr => first | (go_simp; done) | (go_simp; rfl))
                        intro gb328 hg w20 hbox hb
                        have n0_ := Aside0.mk (Kd.N_below (Kd.N_elderB (by (with_reducible repeat (first | apply Kd.N_alloc | apply Kd.N_drewN | apply Kd.N_drew)); exact HO311.out) gb328 (Nat.le_of_eq hg.symm)) hb)
                        have n1_ := Aside0.mk (blk_below (g := gb301) (o := .cells #[.int .i64 t302, .int .i64 t303, .int .i64 t304, .int .i64 t305, .string t306, .string t307, .string t308] 43 (0, 0)) (by (with_reducible repeat (first | refine blk_drewN ?_ _ | refine blk_drew ?_ | refine blk_alloc ?_ _)); exact BK301.out) hb)
                        have n2_ := Aside0.mk (below_step (by repeat (first | (with_reducible first | exact HB.out | apply below_alloc | apply pw_below_drewN | apply below_drew1 | refine below_set ?_ GE301.out) | exact HB.out)) hb)
                        have n3_ := Aside0.mk (hbox)
                        have n4_ := Aside0.mk ((by rw [hg]; exact (below_size (by repeat (first | (with_reducible first | exact HB.out | apply below_alloc | apply pw_below_drewN | apply below_drew1 | refine below_set ?_ GE301.out) | exact HB.out))) : w.heap.size ≤ gb328))
                        have n5_ := Aside0.mk ((by rw [hg]; exact (below_size (by repeat (first | (with_reducible first | exact HB.out | apply below_alloc | apply pw_below_drewN | apply below_drew1 | refine below_set ?_ GE301.out) | exact HB.out))) : w.heap.size ≤ gb328))
                        have n6_ := Aside0.mk ((by rw [hg]; exact Nat.ne_of_lt (blk_lt (g := gb301) (o := .cells #[.int .i64 t302, .int .i64 t303, .int .i64 t304, .int .i64 t305, .string t306, .string t307, .string t308] 43 (0, 0)) (by (with_reducible repeat (first | refine blk_drewN ?_ _ | refine blk_drew ?_ | refine blk_alloc ?_ _)); exact BK301.out)) : gb301 ≠ gb328))
                        have n7_ := Aside0.mk ((by rw [hg]; exact Nat.ne_of_gt (blk_lt (g := gb301) (o := .cells #[.int .i64 t302, .int .i64 t303, .int .i64 t304, .int .i64 t305, .string t306, .string t307, .string t308] 43 (0, 0)) (by (with_reducible repeat (first | refine blk_drewN ?_ _ | refine blk_drew ?_ | refine blk_alloc ?_ _)); exact BK301.out)) : gb328 ≠ gb301))
                        clear HO311
                        clear BK301
                        clear HB
                        have HO311 := n0_
                        have BK301 := n1_
                        have HB := n2_
                        have BK328 := n3_
                        have GW328 := n4_
                        have GE328 := n5_
                        have NB301_328 := n6_
                        have NB328_301 := n7_
                        clear n0_ n1_ n2_ n3_ n4_ n5_ n6_ n7_
                        clear hb hbox hg
                        refine hK.out _ _ ⟨(blk_cell BK301.out 0).trans rfl, (blk_cell BK301.out 1).trans rfl, (blk_cell BK301.out 2).trans rfl, (blk_cell BK301.out 3).trans rfl, (blk_cell BK301.out 4).trans rfl, (blk_cell BK301.out 5).trans rfl, (blk_cell BK301.out 6).trans rfl⟩ (fun hHeld => ?_)
                        clear hK K
                        refine norm_ (a' := ?_) ?_ ?_
                        rotate_left
                        · show Act.put _ (some 5) _ = _
                          simp only [Act.put, List.setIfInBounds_toArray, List.set_cons_zero, List.set_cons_succ, i64_w, i32_w]
                          rfl
                        refine one_ (i := 6) (N := some 26) #[true, true, true, true, true, true, true, false, false, false, false, false, false, true, false, false, false] rfl rfl (one_of HT_.out (by kernel_rfl)) (by decide) (fun K hK => ?_)
                        refine Kd.R_lit_step k56 _ 56 ?hg (N := 26) ?hd (xs := ([(⟨0, t313⟩ : S56), (⟨0, (⟨#[80, 76, 65, 73, 78]⟩ : ByteArray)⟩ : S56), (⟨0, (⟨#[0, 117, 0, 112]⟩ : ByteArray)⟩ : S56), (⟨0, (⟨#[101, 110, 95, 85, 83]⟩ : ByteArray)⟩ : S56)] : List (S56))) (inner := [.int .u64 0, .string t313, .int .u64 0, .string (⟨#[80, 76, 65, 73, 78]⟩ : ByteArray), .int .u64 0, .string (⟨#[0, 117, 0, 112]⟩ : ByteArray), .int .u64 0, .string (⟨#[101, 110, 95, 85, 83]⟩ : ByteArray)]) (ok := fun _ => True) (okp := fun _ => True) ?hr ?hp (fun _ hk => hk) trivial (Below.refl _ _) (Nat.le_refl _) (by simp) ?_; (case hd => rfl); (case hg => rfl); (case hr => first | (go_simp; done) | (go_simp; rfl)); (case hp => exact (Reps.c2 (show Kd.M k56 _ _ _ (⟨0, t313⟩ : S56) [.int .u64 0, .string t313] from (k56_mkM _ _ _ (⟨0, t313⟩ : S56) )) (Reps.c2 (show Kd.M k56 _ _ _ (⟨0, (⟨#[80, 76, 65, 73, 78]⟩ : ByteArray)⟩ : S56) [.int .u64 0, .string (⟨#[80, 76, 65, 73, 78]⟩ : ByteArray)] from (k56_mkM _ _ _ (⟨0, (⟨#[80, 76, 65, 73, 78]⟩ : ByteArray)⟩ : S56) )) (Reps.c2 (show Kd.M k56 _ _ _ (⟨0, (⟨#[0, 117, 0, 112]⟩ : ByteArray)⟩ : S56) [.int .u64 0, .string (⟨#[0, 117, 0, 112]⟩ : ByteArray)] from (k56_mkM _ _ _ (⟨0, (⟨#[0, 117, 0, 112]⟩ : ByteArray)⟩ : S56) )) (Reps.c2 (show Kd.M k56 _ _ _ (⟨0, (⟨#[101, 110, 95, 85, 83]⟩ : ByteArray)⟩ : S56) [.int .u64 0, .string (⟨#[101, 110, 95, 85, 83]⟩ : ByteArray)] from (k56_mkM _ _ _ (⟨0, (⟨#[101, 110, 95, 85, 83]⟩ : ByteArray)⟩ : S56) )) (Reps.none _ _))))))
                        intro v315 w21 ho22 hb hg_ hnew_
                        clear hg_ hnew_
                        (first | rw [← Ny314.out] at ho22 | (simp only [Int.reduceToNat] at ho22; rw [← Ny314.out] at ho22))
                        have n0_ := Aside0.mk (Kd.N_elder' (by (with_reducible repeat (first | apply Kd.N_alloc | apply Kd.N_drewN | apply Kd.N_drew)); exact HO311.out) (Kd.R_base ho22) hb)
                        have n1_ := Aside0.mk (Kd.R_lower ho22 (below_size (by repeat (first | (with_reducible first | exact HB.out | apply below_alloc | apply pw_below_drewN | apply below_drew1 | refine below_set ?_ GE301.out | refine below_set ?_ GE328.out) | exact HB.out))))
                        have n2_ := Aside0.mk (blk_below (g := gb301) (o := .cells #[.int .i64 t302, .int .i64 t303, .int .i64 t304, .int .i64 t305, .string t306, .string t307, .string t308] 43 (0, 0)) (by (with_reducible repeat (first | refine blk_drewN ?_ _ | refine blk_drew ?_ | refine blk_alloc ?_ _)); exact BK301.out) hb)
                        have n3_ := Aside0.mk (blk_below (g := gb328) (o := .cells #[.int .i64 0, .int .i64 0, .int .i64 0, .int .i64 0, .string (⟨#[]⟩ : ByteArray), .string (⟨#[]⟩ : ByteArray), .string (⟨#[]⟩ : ByteArray)] 43 (0, 0)) (by (with_reducible repeat (first | refine blk_drewN ?_ _ | refine blk_drew ?_ | refine blk_alloc ?_ _)); exact BK328.out) hb)
                        have n4_ := Aside0.mk (below_step (by repeat (first | (with_reducible first | exact HB.out | apply below_alloc | apply pw_below_drewN | apply below_drew1 | refine below_set ?_ GE301.out | refine below_set ?_ GE328.out) | exact HB.out)) hb)
                        clear HO311
                        clear BK301
                        clear BK328
                        clear HB
                        have HO311 := n0_
                        have HO316 := n1_
                        have BK301 := n2_
                        have BK328 := n3_
                        have HB := n4_
                        clear n0_ n1_ n2_ n3_ n4_
                        clear hb ho22
                        obtain ⟨Ao23, co23, eo23⟩ := Kd.R_slice HO316.out
                        (first | subst eo23 | (injection eo23 with f1_ f2_ f3_; have f4_ := f1_.symm; have f5_ := f3_.symm; clear f1_ f2_ f3_; subst f4_; subst f5_))
                        refine hK.out _ _ ⟨(blk_cell BK301.out 0).trans rfl, (blk_cell BK301.out 1).trans rfl, (blk_cell BK301.out 2).trans rfl, (blk_cell BK301.out 3).trans rfl, (blk_cell BK301.out 4).trans rfl, (blk_cell BK301.out 5).trans rfl, (blk_cell BK301.out 6).trans rfl⟩ (fun hHeld => ?_)
                        clear hK K
                        refine norm_ (a' := ?_) ?_ ?_
                        rotate_left
                        · show Act.put _ (some 26) _ = _
                          simp only [Act.put, List.setIfInBounds_toArray, List.set_cons_zero, List.set_cons_succ, i64_w, i32_w]
                          rfl
                        refine pure_ (i := 7) (N := some 27) (v := ?_) (a' := ?_) #[true, true, true, true, true, true, true, true, false, false, false, false, false, true, false, false, false] rfl rfl (any_of HT_.out (by kernel_rfl)) (fun _ _ _ h => h) (Or.inl ⟨by rfl, ?_⟩) ?_ ?_
                        rotate_left
                        · intro w'
                          go_simp
                          with_reducible rfl
                        rotate_left
                        · simp only [Act.put, List.setIfInBounds_toArray, List.set_cons_zero, List.set_cons_succ, i64_w, i32_w]
                          rfl
                        refine one_ (i := 8) (N := some 28) #[true, true, true, true, true, true, true, true, true, false, false, false, false, true, false, false, false] rfl rfl (one_of HT_.out (by kernel_rfl)) (by decide) (fun K hK => ?_)
                        refine goes_ Tryd.func28 (by kernel_rfl) rfl #[.agg #[.int .i64 t302, .int .i64 t303, .int .i64 t304, .int .i64 t305, .string t306, .string t307, .string t308], .agg #[.int .i64 10, .int .i64 11, .slice Ao23 y314.length co23]] (by rfl) rfl rfl (by (try simp only [List.map_toArray, List.map_cons, List.map_nil]); first | done | rfl | (simp only [List.length_drop, List.length_take]; rfl)) ?_
                        with_reducible refine (serve_Take.calls k t302 t303 t304 t305 t306 t307 t308 10 11 _ _ y314 t317 t318 t319 t320 t321 t322 t323 t324 t327 _ ?side1 ?side2 A4.out).mono ?_
                        (case side1 => repeat (first | exact (Kd.R_reads' HO316.out).2.2 | (with_reducible refine Kd.C_alloc ?_ _) | (with_reducible refine Kd.C_drewN ?_ _) | (with_reducible refine Kd.C_drew ?_)))
                        (case side2 => exact (Kd.R_reads' HO316.out).2.1)
                        rintro e w24 ⟨v325, rfl, ho0, hb⟩
                        refine ⟨_, rfl, ?_⟩
                        have n0_ := Aside0.mk (Kd.N_elder' (by (with_reducible repeat (first | apply Kd.N_alloc | apply Kd.N_drewN | apply Kd.N_drew)); exact HO311.out) (Kd.N_base ho0) hb)
                        have n1_ := Aside0.mk (Kd.R_below (by (with_reducible repeat (first | apply Kd.R_alloc | apply Kd.R_drewN | apply Kd.R_drew)); exact HO316.out) hb)
                        have n2_ := Aside0.mk (Kd.N_lower (Kd.N_mono (ok' := fun k_ => some k_ ≠ (v310 : Value).ownBlock ∧ some k_ ≠ (.slice Ao23 y314.length co23 : Value).ownBlock ∧ k_ ≠ gb301 ∧ k_ ≠ gb328) ho0 (fun k_ hk_ => ⟨(Kd.fresh' (Kd.N_lt (by (with_reducible repeat (first | apply Kd.N_alloc | apply Kd.N_drewN | apply Kd.N_drew)); exact HO311.out)) k_ hk_), (Kd.fresh' (Kd.R_lt (by (with_reducible repeat (first | apply Kd.R_alloc | apply Kd.R_drewN | apply Kd.R_drew)); exact HO316.out)) k_ hk_), (Kd.freshB (g := gb301) (o := .cells #[.int .i64 t302, .int .i64 t303, .int .i64 t304, .int .i64 t305, .string t306, .string t307, .string t308] 43 (0, 0)) (by (with_reducible repeat (first | refine blk_drewN ?_ _ | refine blk_drew ?_ | refine blk_alloc ?_ _)); exact BK301.out) k_ hk_), (Kd.freshB (g := gb328) (o := .cells #[.int .i64 0, .int .i64 0, .int .i64 0, .int .i64 0, .string (⟨#[]⟩ : ByteArray), .string (⟨#[]⟩ : ByteArray), .string (⟨#[]⟩ : ByteArray)] 43 (0, 0)) (by (with_reducible repeat (first | refine blk_drewN ?_ _ | refine blk_drew ?_ | refine blk_alloc ?_ _)); exact BK328.out) k_ hk_)⟩)) (below_size (by repeat (first | (with_reducible first | exact HB.out | apply below_alloc | apply pw_below_drewN | apply below_drew1 | refine below_set ?_ GE301.out | refine below_set ?_ GE328.out) | exact HB.out))))
                        have n3_ := Aside0.mk (blk_below (g := gb301) (o := .cells #[.int .i64 t302, .int .i64 t303, .int .i64 t304, .int .i64 t305, .string t306, .string t307, .string t308] 43 (0, 0)) (by (with_reducible repeat (first | refine blk_drewN ?_ _ | refine blk_drew ?_ | refine blk_alloc ?_ _)); exact BK301.out) hb)
                        have n4_ := Aside0.mk (blk_below (g := gb328) (o := .cells #[.int .i64 0, .int .i64 0, .int .i64 0, .int .i64 0, .string (⟨#[]⟩ : ByteArray), .string (⟨#[]⟩ : ByteArray), .string (⟨#[]⟩ : ByteArray)] 43 (0, 0)) (by (with_reducible repeat (first | refine blk_drewN ?_ _ | refine blk_drew ?_ | refine blk_alloc ?_ _)); exact BK328.out) hb)
                        have n5_ := Aside0.mk (below_step (by repeat (first | (with_reducible first | exact HB.out | apply below_alloc | apply pw_below_drewN | apply below_drew1 | refine below_set ?_ GE301.out | refine below_set ?_ GE328.out) | exact HB.out)) hb)
                        clear HO311
                        clear HO316
                        clear BK301
                        clear BK328
                        clear HB
                        have HO311 := n0_
                        have HO316 := n1_
                        have HO326 := n2_
                        have BK301 := n3_
                        have BK328 := n4_
                        have HB := n5_
                        clear n0_ n1_ n2_ n3_ n4_ n5_
                        (try clear hb)
                        (try clear hb2)
                        (try clear hk)
                        (try clear hi)
                        (try clear ho0)
                        refine hK.out _ _ ⟨(blk_cell BK301.out 0).trans rfl, (blk_cell BK301.out 1).trans rfl, (blk_cell BK301.out 2).trans rfl, (blk_cell BK301.out 3).trans rfl, (blk_cell BK301.out 4).trans rfl, (blk_cell BK301.out 5).trans rfl, (blk_cell BK301.out 6).trans rfl⟩ (fun hHeld => ?_)
                        clear hK K
                        refine norm_ (a' := ?_) ?_ ?_
                        rotate_left
                        · show Act.put _ (some 28) _ = _
                          simp only [Act.put, List.setIfInBounds_toArray, List.set_cons_zero, List.set_cons_succ, i64_w, i32_w]
                          rfl
                        refine pure_ (i := 9) (N := some 19) (v := ?_) (a' := ?_) #[true, true, true, true, true, true, true, true, true, true, false, false, false, true, false, false, false] rfl rfl (any_of HT_.out (by kernel_rfl)) (fun _ _ _ h => h) (Or.inl ⟨by rfl, ?_⟩) ?_ ?_
                        rotate_left
                        · intro w'
                          go_simp
                          with_reducible rfl
                        rotate_left
                        · simp only [Act.put, List.setIfInBounds_toArray, List.set_cons_zero, List.set_cons_succ, i64_w, i32_w]
                          rfl
                        refine pure_ (i := 10) (N := some 29) (v := ?_) (a' := ?_) #[true, true, true, true, true, true, true, true, true, true, true, false, false, true, false, false, false] rfl rfl (any_of HT_.out (by kernel_rfl)) (fun _ _ _ h => h) (Or.inl ⟨by rfl, ?_⟩) ?_ ?_
                        rotate_left
                        · intro w'
                          go_simp
                          with_reducible rfl
                        rotate_left
                        · simp only [Act.put, List.setIfInBounds_toArray, List.set_cons_zero, List.set_cons_succ, i64_w, i32_w]
                          rfl
                        refine pure_ (i := 11) (N := some 30) (v := ?_) (a' := ?_) #[true, true, true, true, true, true, true, true, true, true, true, true, false, true, false, false, false] rfl rfl (any_of HT_.out (by kernel_rfl)) (fun _ _ _ h => h) (Or.inl ⟨by rfl, ?_⟩) ?_ ?_
                        rotate_left
                        · intro w'
                          go_simp
                          with_reducible rfl
                        rotate_left
                        · simp only [Act.put, List.setIfInBounds_toArray, List.set_cons_zero, List.set_cons_succ, i64_w, i32_w]
                          rfl
                        refine pure_ (i := 12) (N := some 31) (v := ?_) (a' := ?_) #[true, true, true, true, true, true, true, true, true, true, true, true, true, true, false, false, false] rfl rfl (any_of HT_.out (by kernel_rfl)) (fun _ _ _ h => h) (Or.inl ⟨by rfl, ?_⟩) ?_ ?_
                        rotate_left
                        · intro w'
                          go_simp
                          with_reducible rfl
                        rotate_left
                        · simp only [Act.put, List.setIfInBounds_toArray, List.set_cons_zero, List.set_cons_succ, i64_w, i32_w]
                          rfl
                        exact norm_ (by simp only [putAll, Act.put, List.setIfInBounds_toArray, List.set_cons_zero, List.set_cons_succ]) (hCont (.slice Ao23 y314.length co23, v325, gb328) _ ⟨hHeld, (by (with_reducible repeat (first | apply Kd.N_alloc | apply Kd.N_drewN | apply Kd.N_drew)); exact Kd.N_mono HO311.out (fun _ hk => ⟨hk.1.2, ⟨hk.2, ⟨hk.1.1.1, hk.1.1.2⟩⟩⟩)), (by (with_reducible repeat (first | apply Kd.R_alloc | apply Kd.R_drewN | apply Kd.R_drew)); exact HO316.out), (by (with_reducible repeat (first | apply Kd.N_alloc | apply Kd.N_drewN | apply Kd.N_drew)); exact HO326.out), (by (with_reducible repeat (first | refine blk_drewN ?_ _ | refine blk_drew ?_ | refine blk_alloc ?_ _)); exact BK301.out), (by (with_reducible repeat (first | refine blk_drewN ?_ _ | refine blk_drew ?_ | refine blk_alloc ?_ _)); exact BK328.out), GW328.out, GE328.out, NB301_328.out, NB328_301.out, (by repeat (first | (with_reducible first | exact HB.out | apply below_alloc | apply pw_below_drewN | apply below_drew1 | refine below_set ?_ GE301.out | refine below_set ?_ GE328.out) | exact HB.out))⟩)
                    · skip
                      refine box_step ?hg (N := 5) ?hd (cs := #[.int .i64 0, .int .i64 0, .int .i64 0, .int .i64 0, .string (⟨#[]⟩ : ByteArray), .string (⟨#[]⟩ : ByteArray), .string (⟨#[]⟩ : ByteArray)]) (t := 43) ?hr ?_; (case hd => rfl); (case hg => rfl); (case hr => first | (go_simp; done) | (go_simp; rfl))
                      intro gb328 hg w20 hbox hb
                      have n0_ := Aside0.mk (Kd.N_below (Kd.N_elderB (by (with_reducible repeat (first | apply Kd.N_alloc | apply Kd.N_drewN | apply Kd.N_drew)); exact HO311.out) gb328 (Nat.le_of_eq hg.symm)) hb)
                      have n1_ := Aside0.mk (blk_below (g := gb301) (o := .cells #[.int .i64 t302, .int .i64 t303, .int .i64 t304, .int .i64 t305, .string t306, .string t307, .string t308] 43 (0, 0)) (by (with_reducible repeat (first | refine blk_drewN ?_ _ | refine blk_drew ?_ | refine blk_alloc ?_ _)); exact BK301.out) hb)
                      have n2_ := Aside0.mk (below_step (by repeat (first | (with_reducible first | exact HB.out | apply below_alloc | apply pw_below_drewN | apply below_drew1 | refine below_set ?_ GE301.out) | exact HB.out)) hb)
                      have n3_ := Aside0.mk (hbox)
                      have n4_ := Aside0.mk ((by rw [hg]; exact (below_size (by repeat (first | (with_reducible first | exact HB.out | apply below_alloc | apply pw_below_drewN | apply below_drew1 | refine below_set ?_ GE301.out) | exact HB.out))) : w.heap.size ≤ gb328))
                      have n5_ := Aside0.mk ((by rw [hg]; exact (below_size (by repeat (first | (with_reducible first | exact HB.out | apply below_alloc | apply pw_below_drewN | apply below_drew1 | refine below_set ?_ GE301.out) | exact HB.out))) : w.heap.size ≤ gb328))
                      have n6_ := Aside0.mk ((by rw [hg]; exact Nat.ne_of_lt (blk_lt (g := gb301) (o := .cells #[.int .i64 t302, .int .i64 t303, .int .i64 t304, .int .i64 t305, .string t306, .string t307, .string t308] 43 (0, 0)) (by (with_reducible repeat (first | refine blk_drewN ?_ _ | refine blk_drew ?_ | refine blk_alloc ?_ _)); exact BK301.out)) : gb301 ≠ gb328))
                      have n7_ := Aside0.mk ((by rw [hg]; exact Nat.ne_of_gt (blk_lt (g := gb301) (o := .cells #[.int .i64 t302, .int .i64 t303, .int .i64 t304, .int .i64 t305, .string t306, .string t307, .string t308] 43 (0, 0)) (by (with_reducible repeat (first | refine blk_drewN ?_ _ | refine blk_drew ?_ | refine blk_alloc ?_ _)); exact BK301.out)) : gb328 ≠ gb301))
                      clear HO311
                      clear BK301
                      clear HB
                      have HO311 := n0_
                      have BK301 := n1_
                      have HB := n2_
                      have BK328 := n3_
                      have GW328 := n4_
                      have GE328 := n5_
                      have NB301_328 := n6_
                      have NB328_301 := n7_
                      clear n0_ n1_ n2_ n3_ n4_ n5_ n6_ n7_
                      clear hb hbox hg
                      refine hK.out _ _ ⟨(blk_cell BK301.out 0).trans rfl, (blk_cell BK301.out 1).trans rfl, (blk_cell BK301.out 2).trans rfl, (blk_cell BK301.out 3).trans rfl, (blk_cell BK301.out 4).trans rfl, (blk_cell BK301.out 5).trans rfl, (blk_cell BK301.out 6).trans rfl⟩ (fun hHeld => ?_)
                      clear hK K
                      refine norm_ (a' := ?_) ?_ ?_
                      rotate_left
                      · show Act.put _ (some 5) _ = _
                        simp only [Act.put, List.setIfInBounds_toArray, List.set_cons_zero, List.set_cons_succ, i64_w, i32_w]
                        rfl
                      refine one_ (i := 1) (N := some 21) #[true, true, false, true, true, true, false, false, false, false, false, false, false, true, false, false, false] rfl rfl (one_of HT_.out (by kernel_rfl)) (by decide) (fun K hK => ?_)
                      refine goes_ Tryd.func58 (by kernel_rfl) rfl #[] (by rfl) rfl rfl (by (try simp only [List.map_toArray, List.map_cons, List.map_nil]); first | done | rfl | (simp only [List.length_drop, List.length_take]; rfl)) ?_
                      with_reducible refine (serve_Empty.calls  t313 _ A3.out).mono ?_
                      rintro e w' ⟨rfl, ⟨nd, rfl⟩⟩
                      refine ⟨_, rfl, ?_⟩
                      refine hK.out _ _ ⟨(blk_cell BK301.out 0).trans rfl, (blk_cell BK301.out 1).trans rfl, (blk_cell BK301.out 2).trans rfl, (blk_cell BK301.out 3).trans rfl, (blk_cell BK301.out 4).trans rfl, (blk_cell BK301.out 5).trans rfl, (blk_cell BK301.out 6).trans rfl⟩ (fun hHeld => ?_)
                      clear hK K
                      refine norm_ (a' := ?_) ?_ ?_
                      rotate_left
                      · show Act.put _ (some 21) _ = _
                        simp only [Act.put, List.setIfInBounds_toArray, List.set_cons_zero, List.set_cons_succ, i64_w, i32_w]
                        rfl
                      refine pure_ (i := 2) (N := some 22) (v := ?_) (a' := ?_) #[true, true, true, true, true, true, false, false, false, false, false, false, false, true, false, false, false] rfl rfl (any_of HT_.out (by kernel_rfl)) (fun _ _ _ h => h) (Or.inl ⟨by rfl, ?_⟩) ?_ ?_
                      rotate_left
                      · intro w'
                        go_simp
                        with_reducible rfl
                      rotate_left
                      · simp only [Act.put, List.setIfInBounds_toArray, List.set_cons_zero, List.set_cons_succ, i64_w, i32_w]
                        rfl
                      refine one_ (i := 6) (N := some 26) #[true, true, true, true, true, true, true, false, false, false, false, false, false, true, false, false, false] rfl rfl (one_of HT_.out (by kernel_rfl)) (by decide) (fun K hK => ?_)
                      refine Kd.R_lit_step k56 _ 56 ?hg (N := 26) ?hd (xs := ([(⟨0, t313⟩ : S56), (⟨0, (⟨#[80, 76, 65, 73, 78]⟩ : ByteArray)⟩ : S56), (⟨0, (⟨#[0, 117, 0, 112]⟩ : ByteArray)⟩ : S56), (⟨0, (⟨#[101, 110, 95, 85, 83]⟩ : ByteArray)⟩ : S56)] : List (S56))) (inner := [.int .u64 0, .string t313, .int .u64 0, .string (⟨#[80, 76, 65, 73, 78]⟩ : ByteArray), .int .u64 0, .string (⟨#[0, 117, 0, 112]⟩ : ByteArray), .int .u64 0, .string (⟨#[101, 110, 95, 85, 83]⟩ : ByteArray)]) (ok := fun _ => True) (okp := fun _ => True) ?hr ?hp (fun _ hk => hk) trivial (Below.refl _ _) (Nat.le_refl _) (by simp) ?_; (case hd => rfl); (case hg => rfl); (case hr => first | (go_simp; done) | (go_simp; rfl)); (case hp => exact (Reps.c2 (show Kd.M k56 _ _ _ (⟨0, t313⟩ : S56) [.int .u64 0, .string t313] from (k56_mkM _ _ _ (⟨0, t313⟩ : S56) )) (Reps.c2 (show Kd.M k56 _ _ _ (⟨0, (⟨#[80, 76, 65, 73, 78]⟩ : ByteArray)⟩ : S56) [.int .u64 0, .string (⟨#[80, 76, 65, 73, 78]⟩ : ByteArray)] from (k56_mkM _ _ _ (⟨0, (⟨#[80, 76, 65, 73, 78]⟩ : ByteArray)⟩ : S56) )) (Reps.c2 (show Kd.M k56 _ _ _ (⟨0, (⟨#[0, 117, 0, 112]⟩ : ByteArray)⟩ : S56) [.int .u64 0, .string (⟨#[0, 117, 0, 112]⟩ : ByteArray)] from (k56_mkM _ _ _ (⟨0, (⟨#[0, 117, 0, 112]⟩ : ByteArray)⟩ : S56) )) (Reps.c2 (show Kd.M k56 _ _ _ (⟨0, (⟨#[101, 110, 95, 85, 83]⟩ : ByteArray)⟩ : S56) [.int .u64 0, .string (⟨#[101, 110, 95, 85, 83]⟩ : ByteArray)] from (k56_mkM _ _ _ (⟨0, (⟨#[101, 110, 95, 85, 83]⟩ : ByteArray)⟩ : S56) )) (Reps.none _ _))))))
                      intro v315 w21 ho22 hb hg_ hnew_
                      clear hg_ hnew_
                      (first | rw [← Ny314.out] at ho22 | (simp only [Int.reduceToNat] at ho22; rw [← Ny314.out] at ho22))
                      have n0_ := Aside0.mk (Kd.N_elder' (by (with_reducible repeat (first | apply Kd.N_alloc | apply Kd.N_drewN | apply Kd.N_drew)); exact HO311.out) (Kd.R_base ho22) hb)
                      have n1_ := Aside0.mk (Kd.R_lower ho22 (below_size (by repeat (first | (with_reducible first | exact HB.out | apply below_alloc | apply pw_below_drewN | apply below_drew1 | refine below_set ?_ GE301.out | refine below_set ?_ GE328.out) | exact HB.out))))
                      have n2_ := Aside0.mk (blk_below (g := gb301) (o := .cells #[.int .i64 t302, .int .i64 t303, .int .i64 t304, .int .i64 t305, .string t306, .string t307, .string t308] 43 (0, 0)) (by (with_reducible repeat (first | refine blk_drewN ?_ _ | refine blk_drew ?_ | refine blk_alloc ?_ _)); exact BK301.out) hb)
                      have n3_ := Aside0.mk (blk_below (g := gb328) (o := .cells #[.int .i64 0, .int .i64 0, .int .i64 0, .int .i64 0, .string (⟨#[]⟩ : ByteArray), .string (⟨#[]⟩ : ByteArray), .string (⟨#[]⟩ : ByteArray)] 43 (0, 0)) (by (with_reducible repeat (first | refine blk_drewN ?_ _ | refine blk_drew ?_ | refine blk_alloc ?_ _)); exact BK328.out) hb)
                      have n4_ := Aside0.mk (below_step (by repeat (first | (with_reducible first | exact HB.out | apply below_alloc | apply pw_below_drewN | apply below_drew1 | refine below_set ?_ GE301.out | refine below_set ?_ GE328.out) | exact HB.out)) hb)
                      clear HO311
                      clear BK301
                      clear BK328
                      clear HB
                      have HO311 := n0_
                      have HO316 := n1_
                      have BK301 := n2_
                      have BK328 := n3_
                      have HB := n4_
                      clear n0_ n1_ n2_ n3_ n4_
                      clear hb ho22
                      obtain ⟨Ao23, co23, eo23⟩ := Kd.R_slice HO316.out
                      (first | subst eo23 | (injection eo23 with f1_ f2_ f3_; have f4_ := f1_.symm; have f5_ := f3_.symm; clear f1_ f2_ f3_; subst f4_; subst f5_))
                      refine hK.out _ _ ⟨(blk_cell BK301.out 0).trans rfl, (blk_cell BK301.out 1).trans rfl, (blk_cell BK301.out 2).trans rfl, (blk_cell BK301.out 3).trans rfl, (blk_cell BK301.out 4).trans rfl, (blk_cell BK301.out 5).trans rfl, (blk_cell BK301.out 6).trans rfl⟩ (fun hHeld => ?_)
                      clear hK K
                      refine norm_ (a' := ?_) ?_ ?_
                      rotate_left
                      · show Act.put _ (some 26) _ = _
                        simp only [Act.put, List.setIfInBounds_toArray, List.set_cons_zero, List.set_cons_succ, i64_w, i32_w]
                        rfl
                      refine pure_ (i := 7) (N := some 27) (v := ?_) (a' := ?_) #[true, true, true, true, true, true, true, true, false, false, false, false, false, true, false, false, false] rfl rfl (any_of HT_.out (by kernel_rfl)) (fun _ _ _ h => h) (Or.inl ⟨by rfl, ?_⟩) ?_ ?_
                      rotate_left
                      · intro w'
                        go_simp
                        with_reducible rfl
                      rotate_left
                      · simp only [Act.put, List.setIfInBounds_toArray, List.set_cons_zero, List.set_cons_succ, i64_w, i32_w]
                        rfl
                      refine one_ (i := 8) (N := some 28) #[true, true, true, true, true, true, true, true, true, false, false, false, false, true, false, false, false] rfl rfl (one_of HT_.out (by kernel_rfl)) (by decide) (fun K hK => ?_)
                      refine goes_ Tryd.func28 (by kernel_rfl) rfl #[.agg #[.int .i64 t302, .int .i64 t303, .int .i64 t304, .int .i64 t305, .string t306, .string t307, .string t308], .agg #[.int .i64 10, .int .i64 11, .slice Ao23 y314.length co23]] (by rfl) rfl rfl (by (try simp only [List.map_toArray, List.map_cons, List.map_nil]); first | done | rfl | (simp only [List.length_drop, List.length_take]; rfl)) ?_
                      with_reducible refine (serve_Take.calls k t302 t303 t304 t305 t306 t307 t308 10 11 _ _ y314 t317 t318 t319 t320 t321 t322 t323 t324 t327 _ ?side1 ?side2 A4.out).mono ?_
                      (case side1 => repeat (first | exact (Kd.R_reads' HO316.out).2.2 | (with_reducible refine Kd.C_alloc ?_ _) | (with_reducible refine Kd.C_drewN ?_ _) | (with_reducible refine Kd.C_drew ?_)))
                      (case side2 => exact (Kd.R_reads' HO316.out).2.1)
                      rintro e w24 ⟨v325, rfl, ho0, hb⟩
                      refine ⟨_, rfl, ?_⟩
                      have n0_ := Aside0.mk (Kd.N_elder' (by (with_reducible repeat (first | apply Kd.N_alloc | apply Kd.N_drewN | apply Kd.N_drew)); exact HO311.out) (Kd.N_base ho0) hb)
                      have n1_ := Aside0.mk (Kd.R_below (by (with_reducible repeat (first | apply Kd.R_alloc | apply Kd.R_drewN | apply Kd.R_drew)); exact HO316.out) hb)
                      have n2_ := Aside0.mk (Kd.N_lower (Kd.N_mono (ok' := fun k_ => some k_ ≠ (v310 : Value).ownBlock ∧ some k_ ≠ (.slice Ao23 y314.length co23 : Value).ownBlock ∧ k_ ≠ gb301 ∧ k_ ≠ gb328) ho0 (fun k_ hk_ => ⟨(Kd.fresh' (Kd.N_lt (by (with_reducible repeat (first | apply Kd.N_alloc | apply Kd.N_drewN | apply Kd.N_drew)); exact HO311.out)) k_ hk_), (Kd.fresh' (Kd.R_lt (by (with_reducible repeat (first | apply Kd.R_alloc | apply Kd.R_drewN | apply Kd.R_drew)); exact HO316.out)) k_ hk_), (Kd.freshB (g := gb301) (o := .cells #[.int .i64 t302, .int .i64 t303, .int .i64 t304, .int .i64 t305, .string t306, .string t307, .string t308] 43 (0, 0)) (by (with_reducible repeat (first | refine blk_drewN ?_ _ | refine blk_drew ?_ | refine blk_alloc ?_ _)); exact BK301.out) k_ hk_), (Kd.freshB (g := gb328) (o := .cells #[.int .i64 0, .int .i64 0, .int .i64 0, .int .i64 0, .string (⟨#[]⟩ : ByteArray), .string (⟨#[]⟩ : ByteArray), .string (⟨#[]⟩ : ByteArray)] 43 (0, 0)) (by (with_reducible repeat (first | refine blk_drewN ?_ _ | refine blk_drew ?_ | refine blk_alloc ?_ _)); exact BK328.out) k_ hk_)⟩)) (below_size (by repeat (first | (with_reducible first | exact HB.out | apply below_alloc | apply pw_below_drewN | apply below_drew1 | refine below_set ?_ GE301.out | refine below_set ?_ GE328.out) | exact HB.out))))
                      have n3_ := Aside0.mk (blk_below (g := gb301) (o := .cells #[.int .i64 t302, .int .i64 t303, .int .i64 t304, .int .i64 t305, .string t306, .string t307, .string t308] 43 (0, 0)) (by (with_reducible repeat (first | refine blk_drewN ?_ _ | refine blk_drew ?_ | refine blk_alloc ?_ _)); exact BK301.out) hb)
                      have n4_ := Aside0.mk (blk_below (g := gb328) (o := .cells #[.int .i64 0, .int .i64 0, .int .i64 0, .int .i64 0, .string (⟨#[]⟩ : ByteArray), .string (⟨#[]⟩ : ByteArray), .string (⟨#[]⟩ : ByteArray)] 43 (0, 0)) (by (with_reducible repeat (first | refine blk_drewN ?_ _ | refine blk_drew ?_ | refine blk_alloc ?_ _)); exact BK328.out) hb)
                      have n5_ := Aside0.mk (below_step (by repeat (first | (with_reducible first | exact HB.out | apply below_alloc | apply pw_below_drewN | apply below_drew1 | refine below_set ?_ GE301.out | refine below_set ?_ GE328.out) | exact HB.out)) hb)
                      clear HO311
                      clear HO316
                      clear BK301
                      clear BK328
                      clear HB
                      have HO311 := n0_
                      have HO316 := n1_
                      have HO326 := n2_
                      have BK301 := n3_
                      have BK328 := n4_
                      have HB := n5_
                      clear n0_ n1_ n2_ n3_ n4_ n5_
                      (try clear hb)
                      (try clear hb2)
                      (try clear hk)
                      (try clear hi)
                      (try clear ho0)
                      refine hK.out _ _ ⟨(blk_cell BK301.out 0).trans rfl, (blk_cell BK301.out 1).trans rfl, (blk_cell BK301.out 2).trans rfl, (blk_cell BK301.out 3).trans rfl, (blk_cell BK301.out 4).trans rfl, (blk_cell BK301.out 5).trans rfl, (blk_cell BK301.out 6).trans rfl⟩ (fun hHeld => ?_)
                      clear hK K
                      refine norm_ (a' := ?_) ?_ ?_
                      rotate_left
                      · show Act.put _ (some 28) _ = _
                        simp only [Act.put, List.setIfInBounds_toArray, List.set_cons_zero, List.set_cons_succ, i64_w, i32_w]
                        rfl
                      refine pure_ (i := 9) (N := some 19) (v := ?_) (a' := ?_) #[true, true, true, true, true, true, true, true, true, true, false, false, false, true, false, false, false] rfl rfl (any_of HT_.out (by kernel_rfl)) (fun _ _ _ h => h) (Or.inl ⟨by rfl, ?_⟩) ?_ ?_
                      rotate_left
                      · intro w'
                        go_simp
                        with_reducible rfl
                      rotate_left
                      · simp only [Act.put, List.setIfInBounds_toArray, List.set_cons_zero, List.set_cons_succ, i64_w, i32_w]
                        rfl
                      refine pure_ (i := 10) (N := some 29) (v := ?_) (a' := ?_) #[true, true, true, true, true, true, true, true, true, true, true, false, false, true, false, false, false] rfl rfl (any_of HT_.out (by kernel_rfl)) (fun _ _ _ h => h) (Or.inl ⟨by rfl, ?_⟩) ?_ ?_
                      rotate_left
                      · intro w'
                        go_simp
                        with_reducible rfl
                      rotate_left
                      · simp only [Act.put, List.setIfInBounds_toArray, List.set_cons_zero, List.set_cons_succ, i64_w, i32_w]
                        rfl
                      refine pure_ (i := 11) (N := some 30) (v := ?_) (a' := ?_) #[true, true, true, true, true, true, true, true, true, true, true, true, false, true, false, false, false] rfl rfl (any_of HT_.out (by kernel_rfl)) (fun _ _ _ h => h) (Or.inl ⟨by rfl, ?_⟩) ?_ ?_
                      rotate_left
                      · intro w'
                        go_simp
                        with_reducible rfl
                      rotate_left
                      · simp only [Act.put, List.setIfInBounds_toArray, List.set_cons_zero, List.set_cons_succ, i64_w, i32_w]
                        rfl
                      refine pure_ (i := 12) (N := some 31) (v := ?_) (a' := ?_) #[true, true, true, true, true, true, true, true, true, true, true, true, true, true, false, false, false] rfl rfl (any_of HT_.out (by kernel_rfl)) (fun _ _ _ h => h) (Or.inl ⟨by rfl, ?_⟩) ?_ ?_
                      rotate_left
                      · intro w'
                        go_simp
                        with_reducible rfl
                      rotate_left
                      · simp only [Act.put, List.setIfInBounds_toArray, List.set_cons_zero, List.set_cons_succ, i64_w, i32_w]
                        rfl
                      exact norm_ (by simp only [putAll, Act.put, List.setIfInBounds_toArray, List.set_cons_zero, List.set_cons_succ]) (hCont (.slice Ao23 y314.length co23, v325, gb328) _ ⟨hHeld, (by (with_reducible repeat (first | apply Kd.N_alloc | apply Kd.N_drewN | apply Kd.N_drew)); exact Kd.N_mono HO311.out (fun _ hk => ⟨hk.1.2, ⟨hk.2, ⟨hk.1.1.1, hk.1.1.2⟩⟩⟩)), (by (with_reducible repeat (first | apply Kd.R_alloc | apply Kd.R_drewN | apply Kd.R_drew)); exact HO316.out), (by (with_reducible repeat (first | apply Kd.N_alloc | apply Kd.N_drewN | apply Kd.N_drew)); exact HO326.out), (by (with_reducible repeat (first | refine blk_drewN ?_ _ | refine blk_drew ?_ | refine blk_alloc ?_ _)); exact BK301.out), (by (with_reducible repeat (first | refine blk_drewN ?_ _ | refine blk_drew ?_ | refine blk_alloc ?_ _)); exact BK328.out), GW328.out, GE328.out, NB301_328.out, NB328_301.out, (by repeat (first | (with_reducible first | exact HB.out | apply below_alloc | apply pw_below_drewN | apply below_drew1 | refine below_set ?_ GE301.out | refine below_set ?_ GE328.out) | exact HB.out))⟩)
                  rintro ⟨v315, v325, gb328⟩ w25 ⟨hS_, h0_, h1_, h2_, h3_, h4_, h5_, h6_, h7_, h8_, h9_⟩
                  have n0_ : Aside0 (Kd.N k24 24 w25 w.heap.size (fun k_ => some k_ ≠ (v315 : Value).ownBlock ∧ some k_ ≠ (v325 : Value).ownBlock ∧ k_ ≠ gb301 ∧ k_ ≠ gb328) v310 t309) := ⟨h0_⟩
                  have n1_ : Aside0 (Kd.R k56 56 w25 w.heap.size (fun _ => True) v315 y314) := ⟨h1_⟩
                  have n2_ : Aside0 (Kd.N k24 24 w25 w.heap.size (fun k_ => some k_ ≠ (v310 : Value).ownBlock ∧ some k_ ≠ (v315 : Value).ownBlock ∧ k_ ≠ gb301 ∧ k_ ≠ gb328) v325 t324) := ⟨h2_⟩
                  have n3_ : Aside0 (w25.heap[gb301]? = some (.cells #[.int .i64 t302, .int .i64 t303, .int .i64 t304, .int .i64 t305, .string t306, .string t307, .string t308] 43 (0, 0))) := ⟨h3_⟩
                  have n4_ : Aside0 (w25.heap[gb328]? = some (.cells #[.int .i64 0, .int .i64 0, .int .i64 0, .int .i64 0, .string (⟨#[]⟩ : ByteArray), .string (⟨#[]⟩ : ByteArray), .string (⟨#[]⟩ : ByteArray)] 43 (0, 0))) := ⟨h4_⟩
                  have n5_ : Aside0 (w.heap.size ≤ gb328) := ⟨h5_⟩
                  have n6_ : Aside0 (w.heap.size ≤ gb328) := ⟨h6_⟩
                  have n7_ : Aside0 (gb301 ≠ gb328) := ⟨h7_⟩
                  have n8_ : Aside0 (gb328 ≠ gb301) := ⟨h8_⟩
                  have n9_ : Aside0 (Below w.heap.size w w25) := ⟨h9_⟩
                  clear HO311
                  clear BK301
                  clear HB
                  clear h0_ h1_ h2_ h3_ h4_ h5_ h6_ h7_ h8_ h9_
                  have HO311 := n0_
                  have HO316 := n1_
                  have HO326 := n2_
                  have BK301 := n3_
                  have BK328 := n4_
                  have GW328 := n5_
                  have GE328 := n6_
                  have NB301_328 := n7_
                  have NB328_301 := n8_
                  have HB := n9_
                  clear n0_ n1_ n2_ n3_ n4_ n5_ n6_ n7_ n8_ n9_
                  have hHeld : w25.cell? ⟨gb301, 0, none⟩ = some (.int .i64 t302) ∧ w25.cell? ⟨gb301, 1, none⟩ = some (.int .i64 t303) ∧ w25.cell? ⟨gb301, 2, none⟩ = some (.int .i64 t304) ∧ w25.cell? ⟨gb301, 3, none⟩ = some (.int .i64 t305) ∧ w25.cell? ⟨gb301, 4, none⟩ = some (.string t306) ∧ w25.cell? ⟨gb301, 5, none⟩ = some (.string t307) ∧ w25.cell? ⟨gb301, 6, none⟩ = some (.string t308) := hS_
                  obtain ⟨Ao26, co26, eo26⟩ := Kd.R_slice HO316.out
                  (first | subst eo26 | (injection eo26 with f1_ f2_ f3_; have f4_ := f1_.symm; have f5_ := f3_.symm; clear f1_ f2_ f3_; subst f4_; subst f5_))
                  refine norm_ (a' := ?_) ?_ ?_
                  rotate_left
                  · simp only [putAll, Act.put, List.setIfInBounds_toArray, List.set_cons_zero, List.set_cons_succ]
                    rfl
                  refine one_ (i := 14) (N := none) #[true, true, true, true, true, true, true, true, true, true, true, true, true, true, true, false, false] rfl rfl (one_of HT_.out (by kernel_rfl)) (by decide) (fun K hK => ?_)
                  have hs27 : w25.cell? ⟨gb328, 0, none⟩ = some (.int .i64 0) := (blk_cell BK328.out 0).trans rfl
                  have hfs27 := blk_frozen BK328.out 0
                  have hns27_0 := NB301_328.out
                  have hms27_0 := NB328_301.out
                  have hs28 : w25.cell? ⟨gb328, 1, none⟩ = some (.int .i64 0) := (blk_cell BK328.out 1).trans rfl
                  have hfs28 := blk_frozen BK328.out 1
                  have hns28_0 := NB301_328.out
                  have hms28_0 := NB328_301.out
                  have hs29 : w25.cell? ⟨gb328, 2, none⟩ = some (.int .i64 0) := (blk_cell BK328.out 2).trans rfl
                  have hfs29 := blk_frozen BK328.out 2
                  have hns29_0 := NB301_328.out
                  have hms29_0 := NB328_301.out
                  have hs30 : w25.cell? ⟨gb328, 3, none⟩ = some (.int .i64 0) := (blk_cell BK328.out 3).trans rfl
                  have hfs30 := blk_frozen BK328.out 3
                  have hns30_0 := NB301_328.out
                  have hms30_0 := NB328_301.out
                  have hs31 : w25.cell? ⟨gb328, 4, none⟩ = some (.string (⟨#[]⟩ : ByteArray)) := (blk_cell BK328.out 4).trans rfl
                  have hfs31 := blk_frozen BK328.out 4
                  have hns31_0 := NB301_328.out
                  have hms31_0 := NB328_301.out
                  have hs32 : w25.cell? ⟨gb328, 5, none⟩ = some (.string (⟨#[]⟩ : ByteArray)) := (blk_cell BK328.out 5).trans rfl
                  have hfs32 := blk_frozen BK328.out 5
                  have hns32_0 := NB301_328.out
                  have hms32_0 := NB328_301.out
                  have hs33 : w25.cell? ⟨gb328, 6, none⟩ = some (.string (⟨#[]⟩ : ByteArray)) := (blk_cell BK328.out 6).trans rfl
                  have hfs33 := blk_frozen BK328.out 6
                  have hns33_0 := NB301_328.out
                  have hms33_0 := NB328_301.out
                  refine skip_ (w1 := ?_) (by rfl) rfl ?_ ?_
                  rotate_left
                  · go_simp
                    rfl
                  refine hK.out _ _ ⟨((cell_far (p := ⟨gb328, _, none⟩) NB301_328.out _).trans (((cell_far (p := ⟨gb328, _, none⟩) NB301_328.out _).trans (((cell_far (p := ⟨gb328, _, none⟩) NB301_328.out _).trans (((cell_far (p := ⟨gb328, _, none⟩) NB301_328.out _).trans (((cell_far (p := ⟨gb328, _, none⟩) NB301_328.out _).trans (((cell_far (p := ⟨gb328, _, none⟩) NB301_328.out _).trans (((cell_far (p := ⟨gb328, _, none⟩) NB301_328.out _).trans (hHeld.1)))))))))))))), ((cell_far (p := ⟨gb328, _, none⟩) NB301_328.out _).trans (((cell_far (p := ⟨gb328, _, none⟩) NB301_328.out _).trans (((cell_far (p := ⟨gb328, _, none⟩) NB301_328.out _).trans (((cell_far (p := ⟨gb328, _, none⟩) NB301_328.out _).trans (((cell_far (p := ⟨gb328, _, none⟩) NB301_328.out _).trans (((cell_far (p := ⟨gb328, _, none⟩) NB301_328.out _).trans (((cell_far (p := ⟨gb328, _, none⟩) NB301_328.out _).trans (hHeld.2.1)))))))))))))), ((cell_far (p := ⟨gb328, _, none⟩) NB301_328.out _).trans (((cell_far (p := ⟨gb328, _, none⟩) NB301_328.out _).trans (((cell_far (p := ⟨gb328, _, none⟩) NB301_328.out _).trans (((cell_far (p := ⟨gb328, _, none⟩) NB301_328.out _).trans (((cell_far (p := ⟨gb328, _, none⟩) NB301_328.out _).trans (((cell_far (p := ⟨gb328, _, none⟩) NB301_328.out _).trans (((cell_far (p := ⟨gb328, _, none⟩) NB301_328.out _).trans (hHeld.2.2.1)))))))))))))), ((cell_far (p := ⟨gb328, _, none⟩) NB301_328.out _).trans (((cell_far (p := ⟨gb328, _, none⟩) NB301_328.out _).trans (((cell_far (p := ⟨gb328, _, none⟩) NB301_328.out _).trans (((cell_far (p := ⟨gb328, _, none⟩) NB301_328.out _).trans (((cell_far (p := ⟨gb328, _, none⟩) NB301_328.out _).trans (((cell_far (p := ⟨gb328, _, none⟩) NB301_328.out _).trans (((cell_far (p := ⟨gb328, _, none⟩) NB301_328.out _).trans (hHeld.2.2.2.1)))))))))))))), ((cell_far (p := ⟨gb328, _, none⟩) NB301_328.out _).trans (((cell_far (p := ⟨gb328, _, none⟩) NB301_328.out _).trans (((cell_far (p := ⟨gb328, _, none⟩) NB301_328.out _).trans (((cell_far (p := ⟨gb328, _, none⟩) NB301_328.out _).trans (((cell_far (p := ⟨gb328, _, none⟩) NB301_328.out _).trans (((cell_far (p := ⟨gb328, _, none⟩) NB301_328.out _).trans (((cell_far (p := ⟨gb328, _, none⟩) NB301_328.out _).trans (hHeld.2.2.2.2.1)))))))))))))), ((cell_far (p := ⟨gb328, _, none⟩) NB301_328.out _).trans (((cell_far (p := ⟨gb328, _, none⟩) NB301_328.out _).trans (((cell_far (p := ⟨gb328, _, none⟩) NB301_328.out _).trans (((cell_far (p := ⟨gb328, _, none⟩) NB301_328.out _).trans (((cell_far (p := ⟨gb328, _, none⟩) NB301_328.out _).trans (((cell_far (p := ⟨gb328, _, none⟩) NB301_328.out _).trans (((cell_far (p := ⟨gb328, _, none⟩) NB301_328.out _).trans (hHeld.2.2.2.2.2.1)))))))))))))), ((cell_far (p := ⟨gb328, _, none⟩) NB301_328.out _).trans (((cell_far (p := ⟨gb328, _, none⟩) NB301_328.out _).trans (((cell_far (p := ⟨gb328, _, none⟩) NB301_328.out _).trans (((cell_far (p := ⟨gb328, _, none⟩) NB301_328.out _).trans (((cell_far (p := ⟨gb328, _, none⟩) NB301_328.out _).trans (((cell_far (p := ⟨gb328, _, none⟩) NB301_328.out _).trans (((cell_far (p := ⟨gb328, _, none⟩) NB301_328.out _).trans (hHeld.2.2.2.2.2.2))))))))))))))⟩ (fun hHeld => ?_)
                  clear hK K
                  refine pure_ (i := 15) (N := some 6) (v := ?_) (a' := ?_) #[true, true, true, true, true, true, true, true, true, true, true, true, true, true, true, true, false] rfl rfl (any_of HT_.out (by kernel_rfl)) (fun _ _ _ h => h) (Or.inl ⟨by rfl, ?_⟩) ?_ ?_
                  rotate_left
                  · intro w'
                    go_simp
                    with_reducible rfl
                  rotate_left
                  · simp only [Act.put, List.setIfInBounds_toArray, List.set_cons_zero, List.set_cons_succ, i64_w, i32_w]
                    rfl
                  refine pure_ (i := 16) (N := some 7) (v := ?_) (a' := ?_) #[true, true, true, true, true, true, true, true, true, true, true, true, true, true, true, true, true] rfl rfl (any_of HT_.out (by kernel_rfl)) (fun _ _ _ h => h) (Or.inl ⟨by rfl, ?_⟩) ?_ ?_
                  rotate_left
                  · intro w'
                    go_simp
                    with_reducible rfl
                  rotate_left
                  · simp only [Act.put, List.setIfInBounds_toArray, List.set_cons_zero, List.set_cons_succ, i64_w, i32_w]
                    rfl
                  refine done_ (done_of HT_.out (by kernel_rfl)) ?_
                  have n0_ : Aside0 (Kd.N k24 24 (((((((w25.setCell ⟨gb328, 0, none⟩ (.int .i64 t317)).setCell ⟨gb328, 1, none⟩ (.int .i64 t318)).setCell ⟨gb328, 2, none⟩ (.int .i64 t319)).setCell ⟨gb328, 3, none⟩ (.int .i64 t320)).setCell ⟨gb328, 4, none⟩ (.string t321)).setCell ⟨gb328, 5, none⟩ (.string t322)).setCell ⟨gb328, 6, none⟩ (.string t323)) w.heap.size (fun k_ => some k_ ≠ (.slice Ao26 y314.length co26 : Value).ownBlock ∧ some k_ ≠ (v325 : Value).ownBlock ∧ k_ ≠ gb301 ∧ k_ ≠ gb328) v310 t309) := ⟨by (with_reducible repeat (first | apply Kd.N_alloc | apply Kd.N_drewN | apply Kd.N_drew)); exact Kd.N_mono (Kd.N_far (p := ⟨gb328, 6, none⟩) (Kd.N_far (p := ⟨gb328, 5, none⟩) (Kd.N_far (p := ⟨gb328, 4, none⟩) (Kd.N_far (p := ⟨gb328, 3, none⟩) (Kd.N_far (p := ⟨gb328, 2, none⟩) (Kd.N_far (p := ⟨gb328, 1, none⟩) (Kd.N_far (p := ⟨gb328, 0, none⟩) (Kd.N_mono HO311.out (fun k_ hk => (⟨hk, hk.2.2.2⟩ : _ ∧ k_ ≠ gb328))) (fun _ hk => hk.2) (.int .i64 t317)) (fun _ hk => hk.2) (.int .i64 t318)) (fun _ hk => hk.2) (.int .i64 t319)) (fun _ hk => hk.2) (.int .i64 t320)) (fun _ hk => hk.2) (.string t321)) (fun _ hk => hk.2) (.string t322)) (fun _ hk => hk.2) (.string t323)) (fun _ hk => ⟨hk.1.1, ⟨hk.1.2.1, ⟨hk.1.2.2.1, hk.1.2.2.2⟩⟩⟩)⟩
                  have n1_ : Aside0 (Kd.R k56 56 (((((((w25.setCell ⟨gb328, 0, none⟩ (.int .i64 t317)).setCell ⟨gb328, 1, none⟩ (.int .i64 t318)).setCell ⟨gb328, 2, none⟩ (.int .i64 t319)).setCell ⟨gb328, 3, none⟩ (.int .i64 t320)).setCell ⟨gb328, 4, none⟩ (.string t321)).setCell ⟨gb328, 5, none⟩ (.string t322)).setCell ⟨gb328, 6, none⟩ (.string t323)) w.heap.size (fun _ => True) (.slice Ao26 y314.length co26) y314) := ⟨by (with_reducible repeat (first | apply Kd.R_alloc | apply Kd.R_drewN | apply Kd.R_drew)); exact Kd.R_mono (Kd.R_far (p := ⟨gb328, 6, none⟩) (Kd.R_far (p := ⟨gb328, 5, none⟩) (Kd.R_far (p := ⟨gb328, 4, none⟩) (Kd.R_far (p := ⟨gb328, 3, none⟩) (Kd.R_far (p := ⟨gb328, 2, none⟩) (Kd.R_far (p := ⟨gb328, 1, none⟩) (Kd.R_far (p := ⟨gb328, 0, none⟩) (Kd.R_types HO316.out BK328.out (by decide)) (fun _ hk => hk.2) (.int .i64 t317)) (fun _ hk => hk.2) (.int .i64 t318)) (fun _ hk => hk.2) (.int .i64 t319)) (fun _ hk => hk.2) (.int .i64 t320)) (fun _ hk => hk.2) (.string t321)) (fun _ hk => hk.2) (.string t322)) (fun _ hk => hk.2) (.string t323)) (fun _ hk => trivial)⟩
                  have n2_ : Aside0 (Kd.N k24 24 (((((((w25.setCell ⟨gb328, 0, none⟩ (.int .i64 t317)).setCell ⟨gb328, 1, none⟩ (.int .i64 t318)).setCell ⟨gb328, 2, none⟩ (.int .i64 t319)).setCell ⟨gb328, 3, none⟩ (.int .i64 t320)).setCell ⟨gb328, 4, none⟩ (.string t321)).setCell ⟨gb328, 5, none⟩ (.string t322)).setCell ⟨gb328, 6, none⟩ (.string t323)) w.heap.size (fun k_ => some k_ ≠ (v310 : Value).ownBlock ∧ some k_ ≠ (.slice Ao26 y314.length co26 : Value).ownBlock ∧ k_ ≠ gb301 ∧ k_ ≠ gb328) v325 t324) := ⟨by (with_reducible repeat (first | apply Kd.N_alloc | apply Kd.N_drewN | apply Kd.N_drew)); exact Kd.N_mono (Kd.N_far (p := ⟨gb328, 6, none⟩) (Kd.N_far (p := ⟨gb328, 5, none⟩) (Kd.N_far (p := ⟨gb328, 4, none⟩) (Kd.N_far (p := ⟨gb328, 3, none⟩) (Kd.N_far (p := ⟨gb328, 2, none⟩) (Kd.N_far (p := ⟨gb328, 1, none⟩) (Kd.N_far (p := ⟨gb328, 0, none⟩) (Kd.N_mono HO326.out (fun k_ hk => (⟨hk, hk.2.2.2⟩ : _ ∧ k_ ≠ gb328))) (fun _ hk => hk.2) (.int .i64 t317)) (fun _ hk => hk.2) (.int .i64 t318)) (fun _ hk => hk.2) (.int .i64 t319)) (fun _ hk => hk.2) (.int .i64 t320)) (fun _ hk => hk.2) (.string t321)) (fun _ hk => hk.2) (.string t322)) (fun _ hk => hk.2) (.string t323)) (fun _ hk => ⟨hk.1.1, ⟨hk.1.2.1, ⟨hk.1.2.2.1, hk.1.2.2.2⟩⟩⟩)⟩
                  have n3_ : Aside0 ((((((((w25.setCell ⟨gb328, 0, none⟩ (.int .i64 t317)).setCell ⟨gb328, 1, none⟩ (.int .i64 t318)).setCell ⟨gb328, 2, none⟩ (.int .i64 t319)).setCell ⟨gb328, 3, none⟩ (.int .i64 t320)).setCell ⟨gb328, 4, none⟩ (.string t321)).setCell ⟨gb328, 5, none⟩ (.string t322)).setCell ⟨gb328, 6, none⟩ (.string t323)).heap[gb301]? = some (.cells #[.int .i64 t302, .int .i64 t303, .int .i64 t304, .int .i64 t305, .string t306, .string t307, .string t308] 43 (0, 0))) := ⟨by (with_reducible repeat (first | refine blk_drewN ?_ _ | refine blk_drew ?_ | refine blk_alloc ?_ _)); refine blk_far ?_ NB301_328.out _; (with_reducible repeat (first | refine blk_drewN ?_ _ | refine blk_drew ?_ | refine blk_alloc ?_ _)); refine blk_far ?_ NB301_328.out _; (with_reducible repeat (first | refine blk_drewN ?_ _ | refine blk_drew ?_ | refine blk_alloc ?_ _)); refine blk_far ?_ NB301_328.out _; (with_reducible repeat (first | refine blk_drewN ?_ _ | refine blk_drew ?_ | refine blk_alloc ?_ _)); refine blk_far ?_ NB301_328.out _; (with_reducible repeat (first | refine blk_drewN ?_ _ | refine blk_drew ?_ | refine blk_alloc ?_ _)); refine blk_far ?_ NB301_328.out _; (with_reducible repeat (first | refine blk_drewN ?_ _ | refine blk_drew ?_ | refine blk_alloc ?_ _)); refine blk_far ?_ NB301_328.out _; (with_reducible repeat (first | refine blk_drewN ?_ _ | refine blk_drew ?_ | refine blk_alloc ?_ _)); refine blk_far ?_ NB301_328.out _; (with_reducible repeat (first | refine blk_drewN ?_ _ | refine blk_drew ?_ | refine blk_alloc ?_ _)); exact BK301.out⟩
                  have n4_ : Aside0 ((((((((w25.setCell ⟨gb328, 0, none⟩ (.int .i64 t317)).setCell ⟨gb328, 1, none⟩ (.int .i64 t318)).setCell ⟨gb328, 2, none⟩ (.int .i64 t319)).setCell ⟨gb328, 3, none⟩ (.int .i64 t320)).setCell ⟨gb328, 4, none⟩ (.string t321)).setCell ⟨gb328, 5, none⟩ (.string t322)).setCell ⟨gb328, 6, none⟩ (.string t323)).heap[gb328]? = some (.cells #[.int .i64 t317, .int .i64 t318, .int .i64 t319, .int .i64 t320, .string t321, .string t322, .string t323] 43 (0, 0))) := ⟨by (with_reducible repeat (first | refine blk_drewN ?_ _ | refine blk_drew ?_ | refine blk_alloc ?_ _)); refine blk_put (cs := #[.int .i64 t317, .int .i64 t318, .int .i64 t319, .int .i64 t320, .string t321, .string t322, .string (⟨#[]⟩ : ByteArray)]) ?_ 6 _ rfl; (with_reducible repeat (first | refine blk_drewN ?_ _ | refine blk_drew ?_ | refine blk_alloc ?_ _)); refine blk_put (cs := #[.int .i64 t317, .int .i64 t318, .int .i64 t319, .int .i64 t320, .string t321, .string (⟨#[]⟩ : ByteArray), .string (⟨#[]⟩ : ByteArray)]) ?_ 5 _ rfl; (with_reducible repeat (first | refine blk_drewN ?_ _ | refine blk_drew ?_ | refine blk_alloc ?_ _)); refine blk_put (cs := #[.int .i64 t317, .int .i64 t318, .int .i64 t319, .int .i64 t320, .string (⟨#[]⟩ : ByteArray), .string (⟨#[]⟩ : ByteArray), .string (⟨#[]⟩ : ByteArray)]) ?_ 4 _ rfl; (with_reducible repeat (first | refine blk_drewN ?_ _ | refine blk_drew ?_ | refine blk_alloc ?_ _)); refine blk_put (cs := #[.int .i64 t317, .int .i64 t318, .int .i64 t319, .int .i64 0, .string (⟨#[]⟩ : ByteArray), .string (⟨#[]⟩ : ByteArray), .string (⟨#[]⟩ : ByteArray)]) ?_ 3 _ rfl; (with_reducible repeat (first | refine blk_drewN ?_ _ | refine blk_drew ?_ | refine blk_alloc ?_ _)); refine blk_put (cs := #[.int .i64 t317, .int .i64 t318, .int .i64 0, .int .i64 0, .string (⟨#[]⟩ : ByteArray), .string (⟨#[]⟩ : ByteArray), .string (⟨#[]⟩ : ByteArray)]) ?_ 2 _ rfl; (with_reducible repeat (first | refine blk_drewN ?_ _ | refine blk_drew ?_ | refine blk_alloc ?_ _)); refine blk_put (cs := #[.int .i64 t317, .int .i64 0, .int .i64 0, .int .i64 0, .string (⟨#[]⟩ : ByteArray), .string (⟨#[]⟩ : ByteArray), .string (⟨#[]⟩ : ByteArray)]) ?_ 1 _ rfl; (with_reducible repeat (first | refine blk_drewN ?_ _ | refine blk_drew ?_ | refine blk_alloc ?_ _)); refine blk_put (cs := #[.int .i64 0, .int .i64 0, .int .i64 0, .int .i64 0, .string (⟨#[]⟩ : ByteArray), .string (⟨#[]⟩ : ByteArray), .string (⟨#[]⟩ : ByteArray)]) ?_ 0 _ rfl; (with_reducible repeat (first | refine blk_drewN ?_ _ | refine blk_drew ?_ | refine blk_alloc ?_ _)); exact BK328.out⟩
                  have n5_ : Aside0 (Below w.heap.size w (((((((w25.setCell ⟨gb328, 0, none⟩ (.int .i64 t317)).setCell ⟨gb328, 1, none⟩ (.int .i64 t318)).setCell ⟨gb328, 2, none⟩ (.int .i64 t319)).setCell ⟨gb328, 3, none⟩ (.int .i64 t320)).setCell ⟨gb328, 4, none⟩ (.string t321)).setCell ⟨gb328, 5, none⟩ (.string t322)).setCell ⟨gb328, 6, none⟩ (.string t323))) := ⟨by repeat (first | (with_reducible first | exact HB.out | apply below_alloc | apply pw_below_drewN | apply below_drew1 | refine below_set ?_ GE301.out | refine below_set ?_ GE328.out) | exact HB.out)⟩
                  (try clear HO311)
                  (try clear HO316)
                  (try clear HO326)
                  (try clear BK301)
                  (try clear BK328)
                  (try clear HB)
                  generalize (((((((w25.setCell ⟨gb328, 0, none⟩ (.int .i64 t317)).setCell ⟨gb328, 1, none⟩ (.int .i64 t318)).setCell ⟨gb328, 2, none⟩ (.int .i64 t319)).setCell ⟨gb328, 3, none⟩ (.int .i64 t320)).setCell ⟨gb328, 4, none⟩ (.string t321)).setCell ⟨gb328, 5, none⟩ (.string t322)).setCell ⟨gb328, 6, none⟩ (.string t323)) = w34 at n0_ n1_ n2_ n3_ n4_ n5_ ⊢
                  have HO311 := n0_
                  have HO316 := n1_
                  have HO326 := n2_
                  have BK301 := n3_
                  have BK328 := n4_
                  have HB := n5_
                  clear n0_ n1_ n2_ n3_ n4_ n5_
                  obtain ⟨Ao35, co35, eo35⟩ := Kd.N_slice HO311.out
                  subst eo35
                  have p329 : 0 ≤ (0 : Int) := (by omega)
                  have q329 : 0 < (t309.length : Int) := of_decide_eq_true (by first | (with_reducible assumption) | assumption)
                  obtain ⟨ad329, A329_2, c329_2, e329, hx329_0, hx329_1, hx329_2, hl329_2, hi329_2⟩ := at_T24 (Kd.N_reads' HO311.out).2.2 0 p329 q329
                  cases e329
                  obtain ⟨ce329, hce329, hMe329, hcc329⟩ := Kd.N_get HO311.out z24 0 p329 (by first | exact q329 | exact of_decide_eq_true (by first | (with_reducible assumption) | assumption) | (have e_ := (Kd.N_reads' HO311.out).1; omega))
                  obtain ⟨ua329_2, uc329_2, rfl, ul329_2, ge329_2⟩ := k24_openF hMe329
                  have hv329_2 := hcc329 2 _ rfl
                  rw [add_field _ _ 2 (by omega)] at hv329_2
                  replace hv329_2 := Option.some.inj (hv329_2.symm.trans hx329_2)
                  injection hv329_2 with hva_ hvn_ hvc_
                  rw [hva_] at ge329_2
                  rw [hvc_] at ul329_2
                  have HL329_2 := Aside0.mk (show Kd.V k56 56 _ w.heap.size _ _ ((rd_T24 t309 0).f2) from Kd.V_mk ul329_2 ge329_2)
                  clear hva_ hvn_ hvc_ ge329_2 ul329_2
                  clear hcc329 hce329
                  have qi329 : (0 < t309.length) = True := eq_true (by omega)
                  (try rw [show ((0 : Int)).toNat = 0 from rfl] at hx329_0)
                  (try rw [show 0 * 3 = 0 from rfl] at hx329_0)
                  (try rw [Addr.add_zero'] at hx329_0)
                  (try rw [show ((0 : Int)).toNat = 0 from rfl] at hx329_1)
                  (try rw [show 0 * 3 = 0 from rfl] at hx329_1)
                  (try rw [Addr.add_zero'] at hx329_1)
                  (try rw [show ((0 : Int)).toNat = 0 from rfl] at hx329_2)
                  (try rw [show 0 * 3 = 0 from rfl] at hx329_2)
                  (try rw [Addr.add_zero'] at hx329_2)
                  have HR329_2 := Aside0.mk hi329_2
                  have HC329_2 := Aside0.mk hl329_2
                  clear hi329_2 hl329_2
                  replace p329 := eq_true p329
                  replace q329 := eq_true q329
                  obtain ⟨Ao36, co36, eo36⟩ := Kd.N_slice HO326.out
                  subst eo36
                  have p330 : 0 ≤ (0 : Int) := (by omega)
                  have q330 : 0 < (t324.length : Int) := of_decide_eq_true (by first | (with_reducible assumption) | assumption)
                  obtain ⟨ad330, A330_2, c330_2, e330, hx330_0, hx330_1, hx330_2, hl330_2, hi330_2⟩ := at_T24 (Kd.N_reads' HO326.out).2.2 0 p330 q330
                  cases e330
                  obtain ⟨ce330, hce330, hMe330, hcc330⟩ := Kd.N_get HO326.out z24 0 p330 (by first | exact q330 | exact of_decide_eq_true (by first | (with_reducible assumption) | assumption) | (have e_ := (Kd.N_reads' HO326.out).1; omega))
                  obtain ⟨ua330_2, uc330_2, rfl, ul330_2, ge330_2⟩ := k24_openF hMe330
                  have hv330_2 := hcc330 2 _ rfl
                  rw [add_field _ _ 2 (by omega)] at hv330_2
                  replace hv330_2 := Option.some.inj (hv330_2.symm.trans hx330_2)
                  injection hv330_2 with hva_ hvn_ hvc_
                  rw [hva_] at ge330_2
                  rw [hvc_] at ul330_2
                  have HL330_2 := Aside0.mk (show Kd.V k56 56 _ w.heap.size _ _ ((rd_T24 t324 0).f2) from Kd.V_mk ul330_2 ge330_2)
                  clear hva_ hvn_ hvc_ ge330_2 ul330_2
                  clear hcc330 hce330
                  have qi330 : (0 < t324.length) = True := eq_true (by omega)
                  (try rw [show ((0 : Int)).toNat = 0 from rfl] at hx330_0)
                  (try rw [show 0 * 3 = 0 from rfl] at hx330_0)
                  (try rw [Addr.add_zero'] at hx330_0)
                  (try rw [show ((0 : Int)).toNat = 0 from rfl] at hx330_1)
                  (try rw [show 0 * 3 = 0 from rfl] at hx330_1)
                  (try rw [Addr.add_zero'] at hx330_1)
                  (try rw [show ((0 : Int)).toNat = 0 from rfl] at hx330_2)
                  (try rw [show 0 * 3 = 0 from rfl] at hx330_2)
                  (try rw [Addr.add_zero'] at hx330_2)
                  have HR330_2 := Aside0.mk hi330_2
                  have HC330_2 := Aside0.mk hl330_2
                  clear hi330_2 hl330_2
                  replace p330 := eq_true p330
                  replace q330 := eq_true q330
                  try go_wp2
                  go_ret
                  exact ⟨by first | rfl | (simp [errW_none, errW_some] <;> rfl) | (simp [*, errW_none, errW_some] <;> rfl), by repeat (first | (with_reducible first | exact HB.out | apply below_alloc | apply pw_below_drewN | apply below_drew1 | refine below_set ?_ GE301.out | refine below_set ?_ GE328.out) | exact HB.out)⟩
                · rw [if_neg c12] at H
                  exact absurd H (by simp)
              · rw [if_neg c11] at H
                have c11b0 : ((t324.length : Int) == 1) = false := beq_eq_false_iff_ne.mpr c11
                have c11b1 : ((t324.length : Int) != 1) = true := bne_iff_ne.mpr c11
                obtain rfl := Option.some.inj H
                exact absurd HT0.out Bool.false_ne_true
            · rw [if_neg c10] at H
              have c10b0 : (((rd_T24 t309 0).f1) == 10) = false := beq_eq_false_iff_ne.mpr c10
              have c10b1 : (((rd_T24 t309 0).f1) != 10) = true := bne_iff_ne.mpr c10
              obtain rfl := Option.some.inj H
              exact absurd HT0.out Bool.false_ne_true
          · rw [if_neg c9] at H
            exact absurd H (by simp)
        · rw [if_neg c8] at H
          have c8b0 : ((t309.length : Int) == 1) = false := beq_eq_false_iff_ne.mpr c8
          have c8b1 : ((t309.length : Int) != 1) = true := bne_iff_ne.mpr c8
          obtain rfl := Option.some.inj H
          exact absurd HT0.out Bool.false_ne_true
      · rw [if_neg c7] at H
        have c7b0 : (t327 == 0) = false := beq_eq_false_iff_ne.mpr c7
        have c7b1 : (t327 != 0) = true := bne_iff_ne.mpr c7
        obtain rfl := Option.some.inj H
        exact absurd HT0.out Bool.false_ne_true
    · rw [if_neg c6] at H
      have c6b0 : (t312 == 0) = false := beq_eq_false_iff_ne.mpr c6
      have c6b1 : (t312 != 0) = true := bne_iff_ne.mpr c6
      obtain rfl := Option.some.inj H
      exact absurd HT0.out Bool.false_ne_true
  · rw [if_neg c5] at H
    have c5b0 : (t300 == 0) = false := beq_eq_false_iff_ne.mpr c5
    have c5b1 : (t300 != 0) = true := bne_iff_ne.mpr c5
    obtain rfl := Option.some.inj H
    exact absurd HT0.out Bool.false_ne_true
end Go.Proofs.YtdogcnadopepmaaDoor.H
