/- interchangelaw10.ServeAgrees, walked. -/
import Derived.Test.YtdogcnadopepmaaDoorQ7
namespace Go.Proofs.YtdogcnadopepmaaDoor.M
open Go.RowKit Go.Proofs.YtdogcnadopepmaaDoorW.PrintWords Go.Proofs.YtdogcnadopepmaaDoorW.PrintLast Go.Proofs.YtdogcnadopepmaaDoorW.PrintMore Go.Proofs.YtdogcnadopepmaaDoor.H
set_option linter.unusedSimpArgs false
set_option linter.unusedVariables false

/-- The box of what ServeAgrees is asked of, and the connection's, later. -/
theorem agree_boxes {w w1 : World} {st ch fr be c f b : Int} {us wo ho : ByteArray}
    (hb1 : Below ((w.alloc (.cells #[.int .i64 st, .int .i64 ch, .int .i64 fr, .int .i64 be, .string us, .string wo, .string ho, .int .i64 c, .int .i64 f, .int .i64 b] 53)).alloc (.cells #[.int .i64 st, .int .i64 ch, .int .i64 fr, .int .i64 be, .string us, .string wo, .string ho] 43)).heap.size ((w.alloc (.cells #[.int .i64 st, .int .i64 ch, .int .i64 fr, .int .i64 be, .string us, .string wo, .string ho, .int .i64 c, .int .i64 f, .int .i64 b] 53)).alloc (.cells #[.int .i64 st, .int .i64 ch, .int .i64 fr, .int .i64 be, .string us, .string wo, .string ho] 43)) w1) :
    BlockIs w1 (w.heap.size + 1) 43 #[.int .i64 st, .int .i64 ch, .int .i64 fr, .int .i64 be, .string us, .string wo, .string ho] ∧ Below w.heap.size w w1 := by
  refine ⟨?_, below_up (((Below.refl _ w).alloc (Nat.le_refl _) _).alloc (by simp) _) (by simp; omega) hb1⟩
  have := (BlockIs.new (w.alloc (.cells #[.int .i64 st, .int .i64 ch, .int .i64 fr, .int .i64 be, .string us, .string wo, .string ho, .int .i64 c, .int .i64 f, .int .i64 b] 53)) 43 #[.int .i64 st, .int .i64 ch, .int .i64 fr, .int .i64 be, .string us, .string wo, .string ho]).below hb1 (by simp)
  simpa using this

set_option maxRecDepth 100000 in
set_option maxHeartbeats 16000000 in
theorem ServeAgrees_bad (st ch fr be : Int) (us wo ho : ByteArray) (c f b : Int) (w : World) (hWd : Wd w)
    (h : st ≠ 2 ∨ serve_Right.f ch fr be ≠ some true ∨ c < 0 ∨ 65535 < c ∨ f < 0 ∨ 2147483648 < f ∨ b < 0 ∨ 65535 < b) :
    Calls Tryd.prog 5 #[.agg #[.int .i64 st, .int .i64 ch, .int .i64 fr, .int .i64 be, .string us, .string wo, .string ho, .int .i64 c, .int .i64 f, .int .i64 b]] w fun e w' => e = .returned (.bool true) ∧ Below w.heap.size w w' := by
  have C24 := fun W (hb : Below w.heap.size w W) => interchangelaw10_shown.calls true W rfl (hWd.up hb)
  obtain ⟨rr, hrr⟩ : ∃ rr, serve_Right.f ch fr be = some rr := ⟨_, rfl⟩
  have C30 := fun W => serve_Right.calls ch fr be rr W hrr
  have hrr' : serve_Right.f ch fr be ≠ some true ↔ rr = false := by rw [hrr]; cases rr <;> simp
  rw [hrr'] at h
  have H24 := Lib.hid C24
  have H30 := Lib.hid C30
  clear C24 C30 hrr hrr' hWd
  have h2 : ((st != 2) = true) ∨ ((st != 2) = false ∧ rr = false) ∨ ((st != 2) = false ∧ rr = true ∧ decide (c < 0) = true) ∨ ((st != 2) = false ∧ rr = true ∧ decide (c < 0) = false ∧ decide (65535 < c) = true) ∨
      ((st != 2) = false ∧ rr = true ∧ decide (c < 0) = false ∧ decide (65535 < c) = false ∧ decide (f < 0) = true) ∨ ((st != 2) = false ∧ rr = true ∧ decide (c < 0) = false ∧ decide (65535 < c) = false ∧ decide (f < 0) = false ∧ decide (2147483648 < f) = true) ∨
      ((st != 2) = false ∧ rr = true ∧ decide (c < 0) = false ∧ decide (65535 < c) = false ∧ decide (f < 0) = false ∧ decide (2147483648 < f) = false ∧ decide (b < 0) = true) ∨
      ((st != 2) = false ∧ rr = true ∧ decide (c < 0) = false ∧ decide (65535 < c) = false ∧ decide (f < 0) = false ∧ decide (2147483648 < f) = false ∧ decide (b < 0) = false ∧ decide (65535 < b) = true) := by
    simp only [bne_iff_ne, ne_eq, bne_eq_false_iff_eq, decide_eq_true_eq, decide_eq_false_iff_not]
    cases rr <;> simp at h ⊢ <;> omega
  clear h
  rcases h2 with c1 | ⟨c1, rfl⟩ | ⟨c1, rfl, c2⟩ | ⟨c1, rfl, c2, c3⟩ | ⟨c1, rfl, c2, c3, c4⟩ | ⟨c1, rfl, c2, c3, c4, c5⟩ | ⟨c1, rfl, c2, c3, c4, c5, c6⟩ | ⟨c1, rfl, c2, c3, c4, c5, c6, c7⟩
  all_goals
    go_enter Tryd.func5, Tryd.ntmps5
    go_wp2_with (first | (go_at_call 24; refine (H24.out _ (((Below.refl _ w).alloc (Nat.le_refl _) _).alloc (by simp) _)).mono ?_; rintro e w1 ⟨rfl, hb⟩; obtain ⟨b0, hB⟩ := agree_boxes hb; have HB := Lib.hid hB; obtain ⟨⟨x0, x1, x2, x3, x4, x5, x6⟩, -⟩ := b0.seven; have hl1 := b0.lt; clear b0 hB hb) | (go_at_call 30; refine (H30.out _).mono ?_; rintro e w2 ⟨rfl, hb⟩; have HB := Lib.hid (below_up HB.out HB.out.size hb); clear hb))
    go_ret
    exact ⟨rfl, HB.out⟩

/-- The box of what was answered, and all that lay before, in a later world. -/
theorem same_cells {w w4 : World} {st ch fr be : Int} {us wo ho : ByteArray} (hb : Below (w.alloc (.cells #[.int .i64 st, .int .i64 ch, .int .i64 fr, .int .i64 be, .string us, .string wo, .string ho] 43)).heap.size (w.alloc (.cells #[.int .i64 st, .int .i64 ch, .int .i64 fr, .int .i64 be, .string us, .string wo, .string ho] 43)) w4) :
    (∀ p j : Nat, p < w.heap.size → w4.cell? ⟨p, j, none⟩ = w.cell? ⟨p, j, none⟩) ∧ (w4.cell? ⟨w.heap.size, 0, none⟩ = some (.int .i64 st) ∧ w4.cell? ⟨w.heap.size, 1, none⟩ = some (.int .i64 ch) ∧ w4.cell? ⟨w.heap.size, 2, none⟩ = some (.int .i64 fr) ∧ w4.cell? ⟨w.heap.size, 3, none⟩ = some (.int .i64 be)) := by
  have b := (BlockIs.new w 43 #[.int .i64 st, .int .i64 ch, .int .i64 fr, .int .i64 be, .string us, .string wo, .string ho]).below hb (by simp)
  refine ⟨fun p j hp => ?_, b.cell 0, b.cell 1, b.cell 2, b.cell 3⟩
  exact World.cell?_of_block (((((Below.refl w.heap.size w).alloc (Nat.le_refl _) _).trans (hb.mono (by simp)))).block p hp)

/-- The block of three numbers that are asked for. -/
theorem asks_C {w : World} (c f b : Int) : Kd.C k56 (w.alloc (.cells #[.int .u64 (IntKind.u64.wrap c), .string ⟨#[]⟩, .int .u64 (IntKind.u64.wrap f), .string ⟨#[]⟩, .int .u64 (IntKind.u64.wrap b), .string ⟨#[]⟩] 56)) (some ⟨w.heap.size, 0, none⟩) ([num56 c, num56 f, num56 b] : List S56).length [num56 c, num56 f, num56 b] :=
  C56_of (t := 56) (l := [num56 c, num56 f, num56 b]) (BlockIs.new w 56 _) (by simp)

set_option maxRecDepth 100000 in
set_option maxHeartbeats 16000000 in
theorem ServeAgrees_main (k : Nat) (st ch fr be : Int) (us wo ho : ByteArray) (c f b : Int) (st' ch' fr' be' : Int) (us' wo' ho' : ByteArray) (out : List S24) (e : Int) (w : World) (hWd : Wd w)
    (hst : st = 2) (hr : serve_Right.f ch fr be = some true) (hc0 : 0 ≤ c) (hc1 : c ≤ 65535) (hf0 : 0 ≤ f) (hf1 : f ≤ 2147483648) (hb0 : 0 ≤ b) (hb1 : b ≤ 65535)
    (hT : serve_Take.f k st ch fr be us wo ho 10 31 [num56 c, num56 f, num56 b] = some (st', ch', fr', be', us', wo', ho', out, e))
    (hbad : e ≠ 0 → e = 14 ∧ (ch < c ∨ fr < f ∨ (0 < f ∧ f < 4096)))
    (hok : e = 0 → serve_Right.f ch' fr' be' = some true ∧ ch' ≤ ch ∧ (c = 0 ∨ ch' = c) ∧ fr' ≤ fr ∧ (f = 0 ∨ fr' = f) ∧ be' ≤ b ∧ be' ≤ be ∧ (be' = b ∨ be' = be)) :
    Calls Tryd.prog 5 #[.agg #[.int .i64 st, .int .i64 ch, .int .i64 fr, .int .i64 be, .string us, .string wo, .string ho, .int .i64 c, .int .i64 f, .int .i64 b]] w fun e w' => e = .returned (.bool true) ∧ Below w.heap.size w w' := by
  have C24 := fun W (hb : Below w.heap.size w W) => interchangelaw10_shown.calls true W rfl (hWd.up hb)
  have C30 := fun W => serve_Right.calls ch fr be true W hr
  have C28 := fun W (hb : Below w.heap.size w W) => serve_Take.calls k st ch fr be us wo ho 10 31 (some ⟨W.heap.size, 0, none⟩) 3 [num56 c, num56 f, num56 b] st' ch' fr' be' us' wo' ho' out e
      (W.alloc (.cells #[.int .u64 (IntKind.u64.wrap c), .string ⟨#[]⟩, .int .u64 (IntKind.u64.wrap f), .string ⟨#[]⟩, .int .u64 (IntKind.u64.wrap b), .string ⟨#[]⟩] 56)) (asks_C c f b) (by simp) hT ((hWd.up hb).up ((Below.refl _ W).alloc (Nat.le_refl _) _))
  have g1 : (st != 2) = false := by simp [hst]
  have g2 : decide (c < 0) = false := decide_eq_false (by omega)
  have g3 : decide (65535 < c) = false := decide_eq_false (by omega)
  have g4 : decide (f < 0) = false := decide_eq_false (by omega)
  have g5 : decide (2147483648 < f) = false := decide_eq_false (by omega)
  have g6 : decide (b < 0) = false := decide_eq_false (by omega)
  have g7 : decide (65535 < b) = false := decide_eq_false (by omega)
  have H24 := Lib.hid C24
  have H30 := Lib.hid C30
  have H28 := Lib.hid C28
  clear C24 C30 C28 hr hT hWd hst
  by_cases he : e = 0
  · subst he
    obtain ⟨o1, o2, o3, o4, o5, o6, o7, o8⟩ := hok rfl
    have C31 := fun W => serve_Right.calls ch' fr' be' true W o1
    have H31 := Lib.hid C31
    have q1 : decide (ch' ≤ ch) = true := decide_eq_true o2
    have q2 : decide (fr' ≤ fr) = true := decide_eq_true o4
    have q3 : decide (be' ≤ b) = true := decide_eq_true o6
    have q4 : decide (be' ≤ be) = true := decide_eq_true o7
    have w1 : (c == 0) = false → (ch' == c) = true := by
      simp only [beq_iff_eq, beq_eq_false_iff_ne]
      omega
    have w2 : (f == 0) = false → (fr' == f) = true := by
      simp only [beq_iff_eq, beq_eq_false_iff_ne]
      omega
    have w3 : (be' == b) = false → (be' == be) = true := by
      simp only [beq_iff_eq, beq_eq_false_iff_ne]
      omega
    clear C31 hbad hok o1 o2 o3 o4 o5 o6 o7 o8 hc0 hc1 hf0 hf1 hb0 hb1
    have HW1 := Lib.hid w1
    have HW2 := Lib.hid w2
    have HW3 := Lib.hid w3
    clear w1 w2 w3
    focus
      go_enter Tryd.func5, Tryd.ntmps5
      go_wp2_with fail
      refine (H24.out _ (((Below.refl _ w).alloc (Nat.le_refl _) _).alloc (by simp) _)).mono ?_
      rintro e0 w1 ⟨rfl, hb⟩
      obtain ⟨b0, hB⟩ := agree_boxes hb
      have HB := Lib.hid hB
      have HB0 := Lib.hid b0
      obtain ⟨⟨x0, x1, x2, x3, x4, x5, x6⟩, -⟩ := b0.seven
      have hl1 := b0.lt
      clear b0 hB hb
      dsimp only
      go_wp2_with fail
      refine (H30.out _).mono ?_
      rintro e0 w2 ⟨rfl, hb⟩
      have b0 := HB0.out.below hb HB0.out.lt
      have HB2 := Lib.hid (below_up HB.out HB.out.size hb)
      have HB02 := Lib.hid b0
      obtain ⟨⟨z0, z1, z2, z3, z4, z5, z6⟩, -⟩ := b0.seven
      have hl2 := b0.lt
      clear b0 hb x0 x1 x2 x3 x4 x5 x6 hl1 HB HB0
      dsimp only
      go_wp2_with fail
      refine (H28.out w2 HB2.out).mono ?_
      rintro e0 w3 ⟨v7, rfl, hN, hb⟩
      have b0 := (HB02.out.alloc _).below hb (by simp; omega)
      have HB3 := Lib.hid (below_up HB2.out HB2.out.size (((Below.refl _ w2).alloc (Nat.le_refl _) _).trans (hb.mono (by simp))))
      obtain ⟨⟨y0, y1, y2, y3, y4, y5, y6⟩, -⟩ := b0.seven
      have hl3 := b0.lt
      clear b0 hb hN z0 z1 z2 z3 z4 z5 z6 hl2 HB2 HB02
      dsimp only
      go_wp2_with fail
      refine (H31.out _).mono ?_
      rintro e0 w4 ⟨rfl, hb⟩
      obtain ⟨p1, n0, n1, n2, n3⟩ := same_cells (w := w3) hb
      have HB4 := Lib.hid (below_up HB3.out HB3.out.size (((Below.refl _ w3).alloc (Nat.le_refl _) _).trans (hb.mono (by simp))))
      have r1 := (p1 (w.heap.size + 1) 1 hl3).trans y1
      have r2 := (p1 (w.heap.size + 1) 2 hl3).trans y2
      have r3 := (p1 (w.heap.size + 1) 3 hl3).trans y3
      clear hb p1 y0 y1 y2 y3 y4 y5 y6 hl3 HB3 H24 H28 H30 H31 g1 g2 g3 g4 g5 g6 g7
      dsimp only
      have w1 := HW1.out
      have w2 := HW2.out
      have w3 := HW3.out
      clear HW1 HW2 HW3
      go_wp2
      all_goals
        go_ret
        exact ⟨rfl, HB4.out⟩
  · obtain ⟨rfl, hcond⟩ := hbad he
    have q0 : ((14 : Int) != 0) = true := rfl
    have q1 : decide (ch < c) = true ∨ (decide (ch < c) = false ∧ decide (fr < f) = true) ∨ (decide (ch < c) = false ∧ decide (fr < f) = false ∧ decide (0 < f) = true ∧ decide (f < 4096) = true) := by
      simp only [decide_eq_true_eq, decide_eq_false_iff_not]
      omega
    have HQ1 := Lib.hid q1
    clear q1 hcond hok hbad he hc0 hc1 hf0 hf1 hb0 hb1
    go_enter Tryd.func5, Tryd.ntmps5
    go_wp2_with fail
    refine (H24.out _ (((Below.refl _ w).alloc (Nat.le_refl _) _).alloc (by simp) _)).mono ?_
    rintro e0 w1 ⟨rfl, hb⟩
    obtain ⟨b0, hB⟩ := agree_boxes hb
    have HB := Lib.hid hB
    have HB0 := Lib.hid b0
    obtain ⟨⟨x0, x1, x2, x3, x4, x5, x6⟩, -⟩ := b0.seven
    have hl1 := b0.lt
    clear b0 hB hb
    dsimp only
    go_wp2_with fail
    refine (H30.out _).mono ?_
    rintro e0 w2 ⟨rfl, hb⟩
    have b0 := HB0.out.below hb HB0.out.lt
    have HB2 := Lib.hid (below_up HB.out HB.out.size hb)
    have HB02 := Lib.hid b0
    obtain ⟨⟨z0, z1, z2, z3, z4, z5, z6⟩, -⟩ := b0.seven
    have hl2 := b0.lt
    clear b0 hb x0 x1 x2 x3 x4 x5 x6 hl1 HB HB0
    dsimp only
    go_wp2_with fail
    refine (H28.out w2 HB2.out).mono ?_
    rintro e0 w3 ⟨v7, rfl, hN, hb⟩
    have b0 := (HB02.out.alloc _).below hb (by simp; omega)
    have HB3 := Lib.hid (below_up HB2.out HB2.out.size (((Below.refl _ w2).alloc (Nat.le_refl _) _).trans (hb.mono (by simp))))
    obtain ⟨⟨y0, y1, y2, y3, y4, y5, y6⟩, -⟩ := b0.seven
    have hl3 := b0.lt
    clear b0 hb hN z0 z1 z2 z3 z4 z5 z6 hl2 HB2 HB02
    dsimp only
    have q1 := HQ1.out
    clear HQ1
    rcases q1 with q1 | ⟨q1, q2⟩ | ⟨q1, q2, q3, q4⟩
    all_goals
      go_wp2
      go_ret
      exact ⟨rfl, HB3.out.alloc HB3.out.size _⟩
end Go.Proofs.YtdogcnadopepmaaDoor.M
