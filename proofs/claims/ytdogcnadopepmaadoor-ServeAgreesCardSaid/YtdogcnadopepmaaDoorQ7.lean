/- interchangelaw10.ServeNames, walked: it answers true, where what serve.Take answers is such. -/
import Derived.Test.YtdogcnadopepmaaDoorC13
import Derived.Test.YtdogcnadopepmaaDoorHe40
namespace Go.Proofs.YtdogcnadopepmaaDoor.M
open Go.RowKit Go.Proofs.YtdogcnadopepmaaDoorW.PrintWords Go.Proofs.YtdogcnadopepmaaDoorW.PrintLast Go.Proofs.YtdogcnadopepmaaDoorW.PrintMore Go.Proofs.YtdogcnadopepmaaDoor.H
set_option linter.unusedSimpArgs false
set_option linter.unusedVariables false

def ofRes (r : Res) : Int × Int × Int × Int × ByteArray × ByteArray × ByteArray × (List (S24)) × Int := (r.h.st, r.h.ch, r.h.fr, r.h.be, r.h.us, r.h.wo, r.h.ho, r.out, r.e)

/-- Two boxes that a statement about a connection and a method lays, later. -/
theorem two_boxes {w w1 : World} {st ch fr be c i : Int} {us wo ho : ByteArray} {A : Option Addr} {n cap : Nat}
    (hb1 : Below ((w.alloc (.cells #[.int .i64 st, .int .i64 ch, .int .i64 fr, .int .i64 be, .string us, .string wo, .string ho] 43)).alloc (.cells #[.int .i64 c, .int .i64 i, .slice A n cap] 24)).heap.size ((w.alloc (.cells #[.int .i64 st, .int .i64 ch, .int .i64 fr, .int .i64 be, .string us, .string wo, .string ho] 43)).alloc (.cells #[.int .i64 c, .int .i64 i, .slice A n cap] 24)) w1) :
    BlockIs w1 w.heap.size 43 #[.int .i64 st, .int .i64 ch, .int .i64 fr, .int .i64 be, .string us, .string wo, .string ho] ∧ BlockIs w1 (w.heap.size + 1) 24 #[.int .i64 c, .int .i64 i, .slice A n cap] ∧ Below w.heap.size w w1 := by
  refine ⟨((BlockIs.new w 43 _).alloc _).below hb1 (by simp; omega), ?_, below_up (((Below.refl _ w).alloc (Nat.le_refl _) _).alloc (by simp) _) (by simp; omega) hb1⟩
  have := (BlockIs.new (w.alloc (.cells #[.int .i64 st, .int .i64 ch, .int .i64 fr, .int .i64 be, .string us, .string wo, .string ho] 43)) 24 #[.int .i64 c, .int .i64 i, .slice A n cap]).below hb1 (by simp)
  simpa using this

set_option maxRecDepth 100000 in
set_option maxHeartbeats 8000000 in
theorem ServeNames_walk (k : Nat) (st ch fr be : Int) (us wo ho : ByteArray) (c i : Int) (A : Option Addr) (cap : Nat) (l : List S56) (e st' ch' fr' be' : Int) (us' wo' ho' : ByteArray) (out : List S24) (w : World) (hC : Kd.C k56 w A l.length l) (hc : l.length ≤ cap) (hWd : Wd w)
    (hT : serve_Take.f k st ch fr be us wo ho c i l = some (st', ch', fr', be', us', wo', ho', out, e))
    (hu : e = 0 → (us' = us ∧ wo' = wo) ∨ st = 1) (hh : e = 0 → ho' = ho ∨ st = 3) (ht : e = 0 → (ch' = ch ∧ fr' = fr ∧ be' = be) ∨ st = 2) :
    Calls Tryd.prog 7 #[.agg #[.int .i64 st, .int .i64 ch, .int .i64 fr, .int .i64 be, .string us, .string wo, .string ho], .agg #[.int .i64 c, .int .i64 i, .slice A l.length cap]] w fun e w' => e = .returned (.bool true) ∧ Below w.heap.size w w' := by
  have C24 := fun W (hb : Below w.heap.size w W) => interchangelaw10_shown.calls true W rfl (hWd.up hb)
  have C28 := fun W (hb : Below w.heap.size w W) => serve_Take.calls k st ch fr be us wo ho c i A cap l st' ch' fr' be' us' wo' ho' out e W (Kd.C_below hC hb) hc hT (hWd.up hb)
  have H24 := Lib.hid C24
  have H28 := Lib.hid C28
  clear C24 C28 hT hC hc hWd
  by_cases c1 : e = 0
  · subst c1
    have c1b : ((0 : Int) != 0) = false := rfl
    have hu := hu rfl
    have hh := hh rfl
    have ht := ht rfl
    rcases hu with ⟨rfl, rfl⟩ | rfl
    · rcases hh with rfl | rfl
      · rcases ht with ⟨rfl, rfl, rfl⟩ | rfl
        · have E40 := fun W => eqA40 9998 W ch' ch' fr' fr' be' be'
          go_enter Tryd.func7, Tryd.ntmps7
          go_wp2_with (first | (go_at_call 24; refine (H24.out _ (((Below.refl _ w).alloc (Nat.le_refl _) _).alloc (by simp) _)).mono ?_; rintro e w1 ⟨rfl, hb⟩; obtain ⟨b0, b1, hB⟩ := two_boxes hb; have HB0 := Lib.hid b0; have HB := Lib.hid hB; obtain ⟨⟨x0, x1, x2, x3, x4, x5, x6⟩, -⟩ := b0.seven; have y0 := b1.cell 0; have y1 := b1.cell 1; have y2 := b1.cell 2; simp only [List.getElem?_toArray, List.getElem?_cons_zero, List.getElem?_cons_succ] at y0 y1 y2; clear b0 b1 hB hb) | (go_at_call 28; refine (H28.out _ HB.out).mono ?_; rintro e w2 ⟨v7, rfl, hN, hb⟩; have HB2 := Lib.hid (below_up HB.out HB.out.size hb); have b0 := HB0.out.below hb HB0.out.lt; obtain ⟨⟨z0, z1, z2, z3, z4, z5, z6⟩, -⟩ := b0.seven; have hl2 := b0.lt; clear hN hb b0))
          all_goals
            go_ret
            exact ⟨rfl, HB2.out.alloc HB2.out.size _⟩
        · have E40 := fun W => eqA40 9998 W ch' ch fr' fr be' be
          cases hq : (ch' == ch && (fr' == fr && (be' == be)))
          all_goals
            simp only [hq] at E40
            clear hq
            go_enter Tryd.func7, Tryd.ntmps7
            go_wp2_with (first | (go_at_call 24; refine (H24.out _ (((Below.refl _ w).alloc (Nat.le_refl _) _).alloc (by simp) _)).mono ?_; rintro e w1 ⟨rfl, hb⟩; obtain ⟨b0, b1, hB⟩ := two_boxes hb; have HB0 := Lib.hid b0; have HB := Lib.hid hB; obtain ⟨⟨x0, x1, x2, x3, x4, x5, x6⟩, -⟩ := b0.seven; have y0 := b1.cell 0; have y1 := b1.cell 1; have y2 := b1.cell 2; simp only [List.getElem?_toArray, List.getElem?_cons_zero, List.getElem?_cons_succ] at y0 y1 y2; clear b0 b1 hB hb) | (go_at_call 28; refine (H28.out _ HB.out).mono ?_; rintro e w2 ⟨v7, rfl, hN, hb⟩; have HB2 := Lib.hid (below_up HB.out HB.out.size hb); have b0 := HB0.out.below hb HB0.out.lt; obtain ⟨⟨z0, z1, z2, z3, z4, z5, z6⟩, -⟩ := b0.seven; have hl2 := b0.lt; clear hN hb b0))
            all_goals
              go_ret
              exact ⟨rfl, HB2.out.alloc HB2.out.size _⟩
      · rcases ht with ⟨rfl, rfl, rfl⟩ | ht
        · have E40 := fun W => eqA40 9998 W ch' ch' fr' fr' be' be'
          go_enter Tryd.func7, Tryd.ntmps7
          go_wp2_with (first | (go_at_call 24; refine (H24.out _ (((Below.refl _ w).alloc (Nat.le_refl _) _).alloc (by simp) _)).mono ?_; rintro e w1 ⟨rfl, hb⟩; obtain ⟨b0, b1, hB⟩ := two_boxes hb; have HB0 := Lib.hid b0; have HB := Lib.hid hB; obtain ⟨⟨x0, x1, x2, x3, x4, x5, x6⟩, -⟩ := b0.seven; have y0 := b1.cell 0; have y1 := b1.cell 1; have y2 := b1.cell 2; simp only [List.getElem?_toArray, List.getElem?_cons_zero, List.getElem?_cons_succ] at y0 y1 y2; clear b0 b1 hB hb) | (go_at_call 28; refine (H28.out _ HB.out).mono ?_; rintro e w2 ⟨v7, rfl, hN, hb⟩; have HB2 := Lib.hid (below_up HB.out HB.out.size hb); have b0 := HB0.out.below hb HB0.out.lt; obtain ⟨⟨z0, z1, z2, z3, z4, z5, z6⟩, -⟩ := b0.seven; have hl2 := b0.lt; clear hN hb b0))
          all_goals
            go_ret
            exact ⟨rfl, HB2.out.alloc HB2.out.size _⟩
        · omega
    · rcases hh with rfl | hh
      · rcases ht with ⟨rfl, rfl, rfl⟩ | ht
        · have E40 := fun W => eqA40 9998 W ch' ch' fr' fr' be' be'
          go_enter Tryd.func7, Tryd.ntmps7
          go_wp2_with (first | (go_at_call 24; refine (H24.out _ (((Below.refl _ w).alloc (Nat.le_refl _) _).alloc (by simp) _)).mono ?_; rintro e w1 ⟨rfl, hb⟩; obtain ⟨b0, b1, hB⟩ := two_boxes hb; have HB0 := Lib.hid b0; have HB := Lib.hid hB; obtain ⟨⟨x0, x1, x2, x3, x4, x5, x6⟩, -⟩ := b0.seven; have y0 := b1.cell 0; have y1 := b1.cell 1; have y2 := b1.cell 2; simp only [List.getElem?_toArray, List.getElem?_cons_zero, List.getElem?_cons_succ] at y0 y1 y2; clear b0 b1 hB hb) | (go_at_call 28; refine (H28.out _ HB.out).mono ?_; rintro e w2 ⟨v7, rfl, hN, hb⟩; have HB2 := Lib.hid (below_up HB.out HB.out.size hb); have b0 := HB0.out.below hb HB0.out.lt; obtain ⟨⟨z0, z1, z2, z3, z4, z5, z6⟩, -⟩ := b0.seven; have hl2 := b0.lt; clear hN hb b0))
          all_goals
            go_ret
            exact ⟨rfl, HB2.out.alloc HB2.out.size _⟩
        · omega
      · omega
  · have c1b : (e != 0) = true := bne_iff_ne.2 c1
    clear c1 hu hh ht
    go_enter Tryd.func7, Tryd.ntmps7
    go_wp2_with (first | (go_at_call 24; refine (H24.out _ (((Below.refl _ w).alloc (Nat.le_refl _) _).alloc (by simp) _)).mono ?_; rintro e w1 ⟨rfl, hb⟩; obtain ⟨b0, b1, hB⟩ := two_boxes hb; have HB0 := Lib.hid b0; have HB := Lib.hid hB; obtain ⟨⟨x0, x1, x2, x3, x4, x5, x6⟩, -⟩ := b0.seven; have y0 := b1.cell 0; have y1 := b1.cell 1; have y2 := b1.cell 2; simp only [List.getElem?_toArray, List.getElem?_cons_zero, List.getElem?_cons_succ] at y0 y1 y2; clear b0 b1 hB hb) | (go_at_call 28; refine (H28.out _ HB.out).mono ?_; rintro e w2 ⟨v7, rfl, hN, hb⟩; have HB2 := Lib.hid (below_up HB.out HB.out.size hb); have b0 := HB0.out.below hb HB0.out.lt; obtain ⟨⟨z0, z1, z2, z3, z4, z5, z6⟩, -⟩ := b0.seven; have hl2 := b0.lt; clear hN hb b0))
    go_ret
    exact ⟨rfl, HB2.out.alloc HB2.out.size _⟩
end Go.Proofs.YtdogcnadopepmaaDoor.M
