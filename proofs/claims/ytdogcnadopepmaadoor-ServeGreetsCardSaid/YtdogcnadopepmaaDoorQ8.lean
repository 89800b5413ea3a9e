/- interchangelaw10.ServeGreets, walked. -/
import Derived.Test.YtdogcnadopepmaaDoorC13
import Derived.Test.YtdogcnadopepmaaDoorHe40
import Derived.Test.YtdogcnadopepmaaDoorHe43
import Derived.Test.YtdogcnadopepmaaDoorHf27
namespace Go.Proofs.YtdogcnadopepmaaDoor.M
open Go.RowKit Go.Proofs.YtdogcnadopepmaaDoorW.PrintWords Go.Proofs.YtdogcnadopepmaaDoorW.PrintLast Go.Proofs.YtdogcnadopepmaaDoorW.PrintMore Go.Proofs.YtdogcnadopepmaaDoor.H
set_option linter.unusedSimpArgs false
set_option linter.unusedVariables false

/-- How it is greeted. -/
def hello : List S24 := [⟨10, 10, [⟨0, ⟨#[]⟩⟩, ⟨9, ⟨#[]⟩⟩, ⟨0, ⟨#[0, 0, 0, 0]⟩⟩, ⟨0, ⟨#[80, 76, 65, 73, 78]⟩⟩, ⟨0, ⟨#[101, 110, 95, 85, 83]⟩⟩]⟩]
theorem greet_yes (ch fr be : Int) (us wo ho : ByteArray) : serve_Greet.f 0 ch fr be us wo ho = some (1, ch, fr, be, us, wo, ho, hello, 0) := rfl
theorem greet_no (st ch fr be : Int) (us wo ho : ByteArray) (h : st ≠ 0) : serve_Greet.f st ch fr be us wo ho = some (st, ch, fr, be, us, wo, ho, [], 8) := by
  unfold serve_Greet.f
  rw [if_neg h]
theorem hello_right : interchangeref10_Rights.f 700 hello = some true := by decide +kernel
/-- A connection's block in a later world. -/
theorem hand_box {w w1 : World} {st ch fr be : Int} {us wo ho : ByteArray} (hb : Below (w.alloc (.cells #[.int .i64 st, .int .i64 ch, .int .i64 fr, .int .i64 be, .string us, .string wo, .string ho] 43)).heap.size (w.alloc (.cells #[.int .i64 st, .int .i64 ch, .int .i64 fr, .int .i64 be, .string us, .string wo, .string ho] 43)) w1) :
    BlockIs w1 w.heap.size 43 #[.int .i64 st, .int .i64 ch, .int .i64 fr, .int .i64 be, .string us, .string wo, .string ho] ∧ Below w.heap.size w w1 :=
  ⟨(BlockIs.new w 43 _).below hb (by simp), ((Below.refl _ w).alloc (Nat.le_refl _) _).trans (hb.mono (by simp))⟩

set_option maxRecDepth 100000 in
set_option maxHeartbeats 8000000 in
theorem ServeGreets_no (st ch fr be : Int) (us wo ho : ByteArray) (w : World) (hWd : Wd w) (hst : st ≠ 0) :
    Calls Tryd.prog 8 #[.agg #[.int .i64 st, .int .i64 ch, .int .i64 fr, .int .i64 be, .string us, .string wo, .string ho]] w fun e w' => e = .returned (.bool true) ∧ Below w.heap.size w w' := by
  have C24 := fun W (hb : Below w.heap.size w W) => interchangelaw10_shown.calls true W rfl (hWd.up hb)
  have C26 := fun W => serve_Greet.calls st ch fr be us wo ho st ch fr be us wo ho [] 8 W (greet_no st ch fr be us wo ho hst)
  have E43 := fun W => eqA43 9997 W st st ch ch fr fr be be us us wo wo ho ho
  have H24 := Lib.hid C24
  have H26 := Lib.hid C26
  have g1 : (st != 0) = true := bne_iff_ne.2 hst
  clear C24 C26 hWd hst
  go_enter Tryd.func8, Tryd.ntmps8
  go_wp2_with fail
  refine (H24.out _ ((Below.refl _ w).alloc (Nat.le_refl _) _)).mono ?_
  rintro e0 w1 ⟨rfl, hb⟩
  obtain ⟨b0, hB⟩ := hand_box hb
  have HB := Lib.hid hB
  have HB0 := Lib.hid b0
  obtain ⟨⟨x0, x1, x2, x3, x4, x5, x6⟩, -⟩ := b0.seven
  have hl1 := b0.lt
  clear b0 hB hb
  dsimp only
  go_wp2_with fail
  refine (H26.out _).mono ?_
  rintro e0 w2 ⟨v7, rfl, hN, hb⟩
  obtain ⟨A7, c7, rfl, -, -⟩ := Kd.N_reads hN
  have b0 := HB0.out.below hb HB0.out.lt
  have HB2 := Lib.hid (below_up HB.out HB.out.size hb)
  have HB02 := Lib.hid b0
  obtain ⟨⟨z0, z1, z2, z3, z4, z5, z6⟩, -⟩ := b0.seven
  have hl2 := b0.lt
  clear b0 hb hN x0 x1 x2 x3 x4 x5 x6 hl1 HB HB0
  dsimp only [List.length_nil]
  go_wp2_with fail
  refine (H26.out _).mono ?_
  rintro e0 w3 ⟨v8, rfl, hN, hb⟩
  obtain ⟨b1, hB3⟩ := hand_box hb
  have b0 := (HB02.out.alloc _).below hb (by simp; omega)
  have HB3 := Lib.hid (HB2.out.trans (hB3.mono HB2.out.size))
  obtain ⟨⟨y0, y1, y2, y3, y4, y5, y6⟩, -⟩ := b0.seven
  obtain ⟨⟨t0, t1, t2, t3, t4, t5, t6⟩, -⟩ := b1.seven
  have hl3 := b0.lt
  have hl4 := b1.lt
  clear b0 b1 hb hN hB3 z0 z1 z2 z3 z4 z5 z6 hl2 HB2 HB02
  dsimp only
  go_wp2
  go_ret
  exact ⟨rfl, HB3.out.alloc HB3.out.size _⟩

set_option maxRecDepth 100000 in
set_option maxHeartbeats 8000000 in
theorem ServeGreets_yes (ch fr be : Int) (us wo ho : ByteArray) (w : World) (hWd : Wd w) :
    Calls Tryd.prog 8 #[.agg #[.int .i64 0, .int .i64 ch, .int .i64 fr, .int .i64 be, .string us, .string wo, .string ho]] w fun e w' => e = .returned (.bool true) ∧ Below w.heap.size w w' := by
  have C24 := fun W (hb : Below w.heap.size w W) => interchangelaw10_shown.calls true W rfl (hWd.up hb)
  have C26 := fun W => serve_Greet.calls 0 ch fr be us wo ho 1 ch fr be us wo ho hello 0 W (greet_yes ch fr be us wo ho)
  have C27 := fun W => serve_Greet.calls 1 ch fr be us wo ho 1 ch fr be us wo ho [] 8 W (greet_no 1 ch fr be us wo ho (by decide))
  have E40 := fun W => eqA40 9998 W ch ch fr fr be be
  have H24 := Lib.hid C24
  have H26 := Lib.hid C26
  have H27 := Lib.hid C27
  clear C24 C26 C27 hWd
  go_enter Tryd.func8, Tryd.ntmps8
  go_wp2_with fail
  refine (H24.out _ ((Below.refl _ w).alloc (Nat.le_refl _) _)).mono ?_
  rintro e0 w1 ⟨rfl, hb⟩
  obtain ⟨b0, hB⟩ := hand_box hb
  have HB := Lib.hid hB
  have HB0 := Lib.hid b0
  obtain ⟨⟨x0, x1, x2, x3, x4, x5, x6⟩, -⟩ := b0.seven
  have hl1 := b0.lt
  clear b0 hB hb
  dsimp only
  go_wp2_with fail
  refine (H26.out _).mono ?_
  rintro e0 w2 ⟨v7, rfl, hN, hb⟩
  obtain ⟨A7, c7, rfl, hl7, hC7⟩ := Kd.N_reads hN
  have HC7 := Lib.hid hC7
  have HL7 := Lib.hid hl7
  have b0 := HB0.out.below hb HB0.out.lt
  have HB2 := Lib.hid (below_up HB.out HB.out.size hb)
  have HB02 := Lib.hid b0
  obtain ⟨⟨z0, z1, z2, z3, z4, z5, z6⟩, -⟩ := b0.seven
  have hl2 := b0.lt
  clear b0 hb hN hC7 hl7 x0 x1 x2 x3 x4 x5 x6 hl1 HB HB0
  dsimp only
  go_wp2_with fail
  refine (H27.out _).mono ?_
  rintro e0 w3 ⟨v8, rfl, hN, hb⟩
  obtain ⟨b1, hB3⟩ := hand_box hb
  have b0 := (HB02.out.alloc _).below hb (by simp; omega)
  have HB3 := Lib.hid (HB2.out.trans (hB3.mono HB2.out.size))
  have C28 := fun W (hW : Below w3.heap.size w3 W) => interchangeref10_Rights.calls 700 A7 c7 hello true W (Kd.C_below HC7.out (hB3.trans (hW.mono hB3.size))) HL7.out hello_right
  have H28 := Lib.hid C28
  obtain ⟨⟨y0, y1, y2, y3, y4, y5, y6⟩, -⟩ := b0.seven
  obtain ⟨⟨t0, t1, t2, t3, t4, t5, t6⟩, -⟩ := b1.seven
  have KB0 := Lib.hid b0
  have KB1 := Lib.hid b1
  have hl3 := b0.lt
  have hl4 := b1.lt
  clear b0 b1 hb hN hB3 z0 z1 z2 z3 z4 z5 z6 hl2 HB2 HB02 C28 HC7 HL7
  dsimp only
  go_wp2_with fail
  refine (H28.out _ ((Below.refl _ w3).alloc (Nat.le_refl _) _)).mono ?_
  rintro e0 w4 ⟨rfl, hb⟩
  have b0 := (KB0.out.alloc _).below hb (by simp; omega)
  have b1 := (KB1.out.alloc _).below hb (by simp; omega)
  obtain ⟨⟨p0, p1, p2, p3, p4, p5, p6⟩, -⟩ := b0.seven
  obtain ⟨⟨q0, q1, q2, q3, q4, q5, q6⟩, -⟩ := b1.seven
  have HB4 := Lib.hid (HB3.out.trans ((((Below.refl _ w3).alloc (Nat.le_refl _) _).trans (hb.mono (by simp))).mono HB3.out.size))
  clear hb b0 b1 y0 y1 y2 y3 y4 y5 y6 t0 t1 t2 t3 t4 t5 t6 hl3 hl4 HB3 KB0 KB1
  dsimp only
  go_wp2
  go_ret
  exact ⟨rfl, HB4.out⟩
end Go.Proofs.YtdogcnadopepmaaDoor.M
