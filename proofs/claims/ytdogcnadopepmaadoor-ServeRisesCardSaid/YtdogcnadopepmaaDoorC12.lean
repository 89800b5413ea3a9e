/- serve.Take by its contract, as the print wants it. -/
import Derived.Test.YtdogcnadopepmaaDoorC11
import Derived.StillTailTactics
namespace Go.Proofs.YtdogcnadopepmaaDoor.M
open Go.RowKit Go.Proofs.YtdogcnadopepmaaDoorW.PrintWords Go.Proofs.YtdogcnadopepmaaDoorW.PrintLast Go.Proofs.YtdogcnadopepmaaDoorW.PrintMore Go.Proofs.YtdogcnadopepmaaDoor.H
set_option linter.unusedSimpArgs false
set_option linter.unusedVariables false

theorem BlockIs.set7 {W : World} {B : Nat} {t : TypeId} {a0 a1 a2 a3 a4 a5 a6 : Value} (h : BlockIs W B t #[a0, a1, a2, a3, a4, a5, a6]) (v0 v1 v2 v3 v4 v5 v6 : Value) :
    BlockIs (((((((W.setCell ⟨B, 0, none⟩ v0).setCell ⟨B, 1, none⟩ v1).setCell ⟨B, 2, none⟩ v2).setCell ⟨B, 3, none⟩ v3).setCell ⟨B, 4, none⟩ v4).setCell ⟨B, 5, none⟩ v5).setCell ⟨B, 6, none⟩ v6) B t #[v0, v1, v2, v3, v4, v5, v6] := by
  have := ((((((h.set 0 v0).set 1 v1).set 2 v2).set 3 v3).set 4 v4).set 5 v5).set 6 v6
  simpa using this
theorem below_set7 {n : Nat} {w W : World} (h : Below n w W) (B : Nat) (hB : n ≤ B) (v0 v1 v2 v3 v4 v5 v6 : Value) :
    Below n w (((((((W.setCell ⟨B, 0, none⟩ v0).setCell ⟨B, 1, none⟩ v1).setCell ⟨B, 2, none⟩ v2).setCell ⟨B, 3, none⟩ v3).setCell ⟨B, 4, none⟩ v4).setCell ⟨B, 5, none⟩ v5).setCell ⟨B, 6, none⟩ v6) :=
  (below_set6 h B hB v0 v1 v2 v3 v4 v5).setCell (p := ⟨B, 6, none⟩) hB v6
theorem BlockIs.seven {W : World} {B : Nat} {t : TypeId} {a0 a1 a2 a3 a4 a5 a6 : Value} (h : BlockIs W B t #[a0, a1, a2, a3, a4, a5, a6]) :
    (W.cell? ⟨B, 0, none⟩ = some a0 ∧ W.cell? ⟨B, 1, none⟩ = some a1 ∧ W.cell? ⟨B, 2, none⟩ = some a2 ∧ W.cell? ⟨B, 3, none⟩ = some a3 ∧ W.cell? ⟨B, 4, none⟩ = some a4 ∧ W.cell? ⟨B, 5, none⟩ = some a5 ∧ W.cell? ⟨B, 6, none⟩ = some a6) ∧
    (W.frozen? ⟨B, 0, none⟩ = false ∧ W.frozen? ⟨B, 1, none⟩ = false ∧ W.frozen? ⟨B, 2, none⟩ = false ∧ W.frozen? ⟨B, 3, none⟩ = false ∧ W.frozen? ⟨B, 4, none⟩ = false ∧ W.frozen? ⟨B, 5, none⟩ = false ∧ W.frozen? ⟨B, 6, none⟩ = false) :=
  ⟨⟨h.cell 0, h.cell 1, h.cell 2, h.cell 3, h.cell 4, h.cell 5, h.cell 6⟩, h.frozen 0, h.frozen 1, h.frozen 2, h.frozen 3, h.frozen 4, h.frozen 5, h.frozen 6⟩

set_option maxRecDepth 100000 in
set_option maxHeartbeats 2000000 in
theorem never_any (g : Nat) (w : World) : Calls Tryd.prog 60 #[.pointer (some ⟨g, 0, none⟩)] w fun e w' => e = .returned (.int .i64 8) ∧ w' = w := by
  go_enter Tryd.func60, Tryd.ntmps60
  go_wp2
  go_ret
  exact ⟨rfl, rfl⟩
set_option maxRecDepth 100000 in
set_option maxHeartbeats 2000000 in
theorem nothing_any (g : Nat) (w : World) : Calls Tryd.prog 66 #[.pointer (some ⟨g, 0, none⟩)] w fun e w' => e = .returned (.int .i64 0) ∧ w' = w := by
  go_enter Tryd.func66, Tryd.ntmps66
  go_wp2
  go_ret
  exact ⟨rfl, rfl⟩

/-- The function that takes a method where the connection is at n. -/
def stepFn (n : Nat) : FuncId := 60 + n
theorem step_any (g : Nat) (h : Hd) (m : S24) (A : Option Addr) (cap : Nat) (W : World) (hb : BlockIs W g 113 (workCells h m.f0 m.f1 A m.f2.length cap (.slice none 0 0))) (hr : Kd.C k56 W A m.f2.length m.f2) (hc : m.f2.length ≤ cap) (hsz : (argAt m.f2 2).f1.size ≤ 9223372036854775807) (n : Nat) (hn : n < 7) (hst : h.st = n) :
    Calls Tryd.prog (60 + n) #[.pointer (some ⟨g, 0, none⟩)] W (StepPost g m A cap (doStep h m) W) := by
  unfold doStep
  match n, hn with
  | 0, _ =>
    rw [if_pos (by omega)]
    exact (never_any g W).mono fun e w' ⟨he, hw⟩ => by subst hw; exact ⟨he, Below.refl _ _, fun e => by cases e⟩
  | 1, _ =>
    rw [if_neg (by omega), if_pos (by omega)]
    exact start_any g h m A cap W hb hr hc hsz
  | 2, _ =>
    rw [if_neg (by omega), if_neg (by omega), if_pos (by omega)]
    exact tune_any g h m A cap W hb hr hc
  | 3, _ =>
    rw [if_neg (by omega), if_neg (by omega), if_neg (by omega), if_pos (by omega)]
    exact open_any g h m A cap W hb hr hc
  | 4, _ =>
    rw [if_neg (by omega), if_neg (by omega), if_neg (by omega), if_neg (by omega), if_pos (by omega)]
    exact ends_any g h m A cap _ W hb
  | 5, _ =>
    rw [if_neg (by omega), if_neg (by omega), if_neg (by omega), if_neg (by omega), if_neg (by omega), if_pos (by omega)]
    exact closing_any g h m A cap W hb
  | 6, _ =>
    rw [if_neg (by omega), if_neg (by omega), if_neg (by omega), if_neg (by omega), if_neg (by omega), if_neg (by omega)]
    exact (nothing_any g W).mono fun e w' ⟨he, hw⟩ => by subst hw; exact ⟨he, Below.refl _ _, fun e => ⟨_, hb, Meths.nil _⟩⟩
  | n + 7, h => omega

def serve_Take.f (k : Nat) (a0_0 : Int) (a0_1 : Int) (a0_2 : Int) (a0_3 : Int) (a0_4 : ByteArray) (a0_5 : ByteArray) (a0_6 : ByteArray) (a1_0 : Int) (a1_1 : Int) (l1_2 : List S56) : Option (Int × Int × Int × Int × ByteArray × ByteArray × ByteArray × (List (S24)) × Int) :=
  (method_Right.f k a1_0 a1_1 l1_2).bind fun e =>
    if e = 0 then
      (if a0_0 < 0 ∨ 7 ≤ a0_0 then some (a0_0, a0_1, a0_2, a0_3, a0_4, a0_5, a0_6, [], 8)
      else if (argAt l1_2 2).f1.size ≤ 9223372036854775807 then
        (if (doStep ⟨a0_0, a0_1, a0_2, a0_3, a0_4, a0_5, a0_6⟩ ⟨a1_0, a1_1, l1_2⟩).e = 0 then
          some ((doStep ⟨a0_0, a0_1, a0_2, a0_3, a0_4, a0_5, a0_6⟩ ⟨a1_0, a1_1, l1_2⟩).h.st, (doStep ⟨a0_0, a0_1, a0_2, a0_3, a0_4, a0_5, a0_6⟩ ⟨a1_0, a1_1, l1_2⟩).h.ch, (doStep ⟨a0_0, a0_1, a0_2, a0_3, a0_4, a0_5, a0_6⟩ ⟨a1_0, a1_1, l1_2⟩).h.fr, (doStep ⟨a0_0, a0_1, a0_2, a0_3, a0_4, a0_5, a0_6⟩ ⟨a1_0, a1_1, l1_2⟩).h.be, (doStep ⟨a0_0, a0_1, a0_2, a0_3, a0_4, a0_5, a0_6⟩ ⟨a1_0, a1_1, l1_2⟩).h.us, (doStep ⟨a0_0, a0_1, a0_2, a0_3, a0_4, a0_5, a0_6⟩ ⟨a1_0, a1_1, l1_2⟩).h.wo, (doStep ⟨a0_0, a0_1, a0_2, a0_3, a0_4, a0_5, a0_6⟩ ⟨a1_0, a1_1, l1_2⟩).h.ho, (doStep ⟨a0_0, a0_1, a0_2, a0_3, a0_4, a0_5, a0_6⟩ ⟨a1_0, a1_1, l1_2⟩).out, 0)
        else some (a0_0, a0_1, a0_2, a0_3, a0_4, a0_5, a0_6, [], (doStep ⟨a0_0, a0_1, a0_2, a0_3, a0_4, a0_5, a0_6⟩ ⟨a1_0, a1_1, l1_2⟩).e))
      else none)
    else some (a0_0, a0_1, a0_2, a0_3, a0_4, a0_5, a0_6, [], 7)
theorem serve_Take.mono : ∀ a0_0 a0_1 a0_2 a0_3 a0_4 a0_5 a0_6 a1_0 a1_1 l1_2 k, LeO (serve_Take.f k a0_0 a0_1 a0_2 a0_3 a0_4 a0_5 a0_6 a1_0 a1_1 l1_2) (serve_Take.f (k + 1) a0_0 a0_1 a0_2 a0_3 a0_4 a0_5 a0_6 a1_0 a1_1 l1_2) := fun _ _ _ _ _ _ _ a b l k =>
  LeO.bind (method_Right.mono a b l k) (fun _ => LeO.refl _)

/-- What serve.Take has laid when it asks whether the method is right. -/
theorem take_facts {w w1 : World} {a0_0 a0_1 a0_2 a0_3 a1_0 a1_1 : Int} {a0_4 a0_5 a0_6 : ByteArray} {A : Option Addr} {n c : Nat}
    (hb : Below ((((w.alloc (.cells #[.int .i64 a0_0, .int .i64 a0_1, .int .i64 a0_2, .int .i64 a0_3, .string a0_4, .string a0_5, .string a0_6] 43)).alloc (.cells #[.int .i64 a1_0, .int .i64 a1_1, .slice A n c] 24)).alloc (.cells #[.int .i64 0, .int .i64 0, .int .i64 0, .int .i64 0, .string ⟨#[]⟩, .string ⟨#[]⟩, .string ⟨#[]⟩] 43)).alloc
        (.cells #[.func (.func 60) #[] #[], .func (.func 61) #[] #[], .func (.func 62) #[] #[], .func (.func 63) #[] #[], .func (.func 64) #[] #[], .func (.func 65) #[] #[], .func (.func 66) #[] #[]] 111)).heap.size
      ((((w.alloc (.cells #[.int .i64 a0_0, .int .i64 a0_1, .int .i64 a0_2, .int .i64 a0_3, .string a0_4, .string a0_5, .string a0_6] 43)).alloc (.cells #[.int .i64 a1_0, .int .i64 a1_1, .slice A n c] 24)).alloc (.cells #[.int .i64 0, .int .i64 0, .int .i64 0, .int .i64 0, .string ⟨#[]⟩, .string ⟨#[]⟩, .string ⟨#[]⟩] 43)).alloc
        (.cells #[.func (.func 60) #[] #[], .func (.func 61) #[] #[], .func (.func 62) #[] #[], .func (.func 63) #[] #[], .func (.func 64) #[] #[], .func (.func 65) #[] #[], .func (.func 66) #[] #[]] 111)) w1) :
    BlockIs w1 w.heap.size 43 #[.int .i64 a0_0, .int .i64 a0_1, .int .i64 a0_2, .int .i64 a0_3, .string a0_4, .string a0_5, .string a0_6] ∧ BlockIs w1 (w.heap.size + 1) 24 #[.int .i64 a1_0, .int .i64 a1_1, .slice A n c] ∧
    BlockIs w1 (w.heap.size + 1 + 1) 43 #[.int .i64 0, .int .i64 0, .int .i64 0, .int .i64 0, .string ⟨#[]⟩, .string ⟨#[]⟩, .string ⟨#[]⟩] ∧
    BlockIs w1 (w.heap.size + 1 + 1 + 1) 111 #[.func (.func 60) #[] #[], .func (.func 61) #[] #[], .func (.func 62) #[] #[], .func (.func 63) #[] #[], .func (.func 64) #[] #[], .func (.func 65) #[] #[], .func (.func 66) #[] #[]] ∧ Below w.heap.size w w1 := by
  refine ⟨((((BlockIs.new w 43 _).alloc _).alloc _).alloc _).below hb (by simp; omega), ?_, ?_, ?_, ?_⟩
  · have := (((BlockIs.new (w.alloc (.cells #[.int .i64 a0_0, .int .i64 a0_1, .int .i64 a0_2, .int .i64 a0_3, .string a0_4, .string a0_5, .string a0_6] 43)) 24 #[.int .i64 a1_0, .int .i64 a1_1, .slice A n c]).alloc _).alloc _).below hb (by simp)
    simpa using this
  · have := ((BlockIs.new ((w.alloc (.cells #[.int .i64 a0_0, .int .i64 a0_1, .int .i64 a0_2, .int .i64 a0_3, .string a0_4, .string a0_5, .string a0_6] 43)).alloc (.cells #[.int .i64 a1_0, .int .i64 a1_1, .slice A n c] 24)) 43 #[.int .i64 0, .int .i64 0, .int .i64 0, .int .i64 0, .string ⟨#[]⟩, .string ⟨#[]⟩, .string ⟨#[]⟩]).alloc _).below hb (by simp)
    simpa using this
  · have := (BlockIs.new (((w.alloc (.cells #[.int .i64 a0_0, .int .i64 a0_1, .int .i64 a0_2, .int .i64 a0_3, .string a0_4, .string a0_5, .string a0_6] 43)).alloc (.cells #[.int .i64 a1_0, .int .i64 a1_1, .slice A n c] 24)).alloc (.cells #[.int .i64 0, .int .i64 0, .int .i64 0, .int .i64 0, .string ⟨#[]⟩, .string ⟨#[]⟩, .string ⟨#[]⟩] 43)) 111 #[.func (.func 60) #[] #[], .func (.func 61) #[] #[], .func (.func 62) #[] #[], .func (.func 63) #[] #[], .func (.func 64) #[] #[], .func (.func 65) #[] #[], .func (.func 66) #[] #[]]).below hb (by simp)
    simpa using this
  · exact below_up (((((Below.refl _ w).alloc (Nat.le_refl _) _).alloc (by simp) _).alloc (by simp; omega) _).alloc (by simp; omega) _) (by simp; omega) hb

set_option maxRecDepth 100000 in
set_option maxHeartbeats 8000000 in
theorem serve_Take.calls (k : Nat) (a0_0 : Int) (a0_1 : Int) (a0_2 : Int) (a0_3 : Int) (a0_4 : ByteArray) (a0_5 : ByteArray) (a0_6 : ByteArray) (a1_0 : Int) (a1_1 : Int) (A1_2 : Option Addr) (c1_2 : Nat) (l1_2 : List S56) (r1 : Int) (r2 : Int) (r3 : Int) (r4 : Int) (r5 : ByteArray) (r6 : ByteArray) (r7 : ByteArray) (r8 : List (S24)) (r9 : Int) (w : World) (hr1_2 : Kd.C k56 w A1_2 l1_2.length l1_2) (hc1_2 : l1_2.length ≤ c1_2) (h : serve_Take.f k a0_0 a0_1 a0_2 a0_3 a0_4 a0_5 a0_6 a1_0 a1_1 l1_2 = some (r1, r2, r3, r4, r5, r6, r7, r8, r9)) (hWd : Wd w := by first | (with_reducible assumption) | exact hWd.drewN _ | exact Wd.up hWd (by repeat (first | (with_reducible first | exact HB.out | apply below_alloc | apply pw_below_drewN | apply below_drew1) | exact HB.out))) :
    Calls Tryd.prog 28 #[.agg #[.int .i64 a0_0, .int .i64 a0_1, .int .i64 a0_2, .int .i64 a0_3, .string a0_4, .string a0_5, .string a0_6], .agg #[.int .i64 a1_0, .int .i64 a1_1, .slice A1_2 l1_2.length c1_2]] w fun e w' => ∃ v7_ : Value, e = .returned (.tuple #[.agg #[.int .i64 r1, .int .i64 r2, .int .i64 r3, .int .i64 r4, .string r5, .string r6, .string r7], v7_, .int .i64 r9]) ∧ Kd.N k24 24 w' w.heap.size (fun k_ => (w.heap.size ≤ k_)) v7_ r8 ∧ Below w.heap.size w w' := by
  obtain ⟨e0, hR, H⟩ := Option.bind_eq_some_iff.1 h
  have CR := fun W (hb : Below w.heap.size w W) => method_Right.calls k a1_0 a1_1 A1_2 c1_2 l1_2 e0 W (Kd.C_below hr1_2 hb) hc1_2 hR (hWd.up hb)
  have HR := Lib.hid CR
  have HC := Lib.hid hr1_2
  clear CR h hR hr1_2 hWd
  by_cases c1 : e0 = 0
  · subst c1
    rw [if_pos rfl] at H
    by_cases c2 : a0_0 < 0 ∨ 7 ≤ a0_0
    · rw [if_pos c2] at H
      simp only [Option.some.injEq, Prod.mk.injEq] at H
      obtain ⟨rfl, rfl, rfl, rfl, rfl, rfl, rfl, rfl, rfl⟩ := H
      by_cases c3 : a0_0 < 0
      · have c3b : decide (a0_0 < 0) = true := decide_eq_true c3
        clear c2 c3
        go_enter Tryd.func28, Tryd.ntmps28
        go_wp2_with (go_at_call 22; refine (HR.out _ (((((Below.refl _ w).alloc (Nat.le_refl _) _).alloc (by simp) _).alloc (by simp; omega) _).alloc (by simp; omega) _)).mono ?_; rintro e w1 ⟨rfl, hb⟩; obtain ⟨b0, b1, b2, b3, hB⟩ := take_facts hb; obtain ⟨⟨x0, x1, x2, x3, x4, x5, x6⟩, -⟩ := b0.seven; have y0 := b1.cell 0; have y1 := b1.cell 1; have y2 := b1.cell 2; simp only [List.getElem?_toArray, List.getElem?_cons_zero, List.getElem?_cons_succ] at y0 y1 y2; obtain ⟨⟨z0, z1, z2, z3, z4, z5, z6⟩, ⟨f0, f1, f2, f3, f4, f5, f6⟩⟩ := b2.seven; obtain ⟨⟨s0, s1, s2, s3, s4, s5, s6⟩, -⟩ := b3.seven; have HB0 := Lib.hid b0; have HB1 := Lib.hid b1; have HB2 := Lib.hid b2; have HB3 := Lib.hid b3; have HBB := Lib.hid hB; have hsz := b3.lt; clear hb b0 b1 b2 b3 hB)
        obtain ⟨⟨q0, q1, q2, q3, q4, q5, q6⟩, -⟩ := (HB2.out.set7 (.int .i64 a0_0) (.int .i64 a0_1) (.int .i64 a0_2) (.int .i64 a0_3) (.string a0_4) (.string a0_5) (.string a0_6)).seven
        have hu43 := Tryd.underlying43
        refine bodyPost_ret (v := .tuple #[.agg #[.int .i64 a0_0, .int .i64 a0_1, .int .i64 a0_2, .int .i64 a0_3, .string a0_4, .string a0_5, .string a0_6], .slice none 0 0, .int .i64 8]) (by simp [results, Tryd.f28, go_sem, q0, q1, q2, q3, q4, q5, q6]) rfl ⟨_, rfl, Kd.N_nil _ _ _ _ _, below_set7 HBB.out _ (by omega) _ _ _ _ _ _ _⟩
      · have c3b : decide (a0_0 < 0) = false := decide_eq_false c3
        have c4b : decide (7 ≤ a0_0) = true := decide_eq_true (by omega)
        clear c2 c3
        go_enter Tryd.func28, Tryd.ntmps28
        go_wp2_with (go_at_call 22; refine (HR.out _ (((((Below.refl _ w).alloc (Nat.le_refl _) _).alloc (by simp) _).alloc (by simp; omega) _).alloc (by simp; omega) _)).mono ?_; rintro e w1 ⟨rfl, hb⟩; obtain ⟨b0, b1, b2, b3, hB⟩ := take_facts hb; obtain ⟨⟨x0, x1, x2, x3, x4, x5, x6⟩, -⟩ := b0.seven; have y0 := b1.cell 0; have y1 := b1.cell 1; have y2 := b1.cell 2; simp only [List.getElem?_toArray, List.getElem?_cons_zero, List.getElem?_cons_succ] at y0 y1 y2; obtain ⟨⟨z0, z1, z2, z3, z4, z5, z6⟩, ⟨f0, f1, f2, f3, f4, f5, f6⟩⟩ := b2.seven; obtain ⟨⟨s0, s1, s2, s3, s4, s5, s6⟩, -⟩ := b3.seven; have HB0 := Lib.hid b0; have HB1 := Lib.hid b1; have HB2 := Lib.hid b2; have HB3 := Lib.hid b3; have HBB := Lib.hid hB; have hsz := b3.lt; clear hb b0 b1 b2 b3 hB)
        obtain ⟨⟨q0, q1, q2, q3, q4, q5, q6⟩, -⟩ := (HB2.out.set7 (.int .i64 a0_0) (.int .i64 a0_1) (.int .i64 a0_2) (.int .i64 a0_3) (.string a0_4) (.string a0_5) (.string a0_6)).seven
        have hu43 := Tryd.underlying43
        refine bodyPost_ret (v := .tuple #[.agg #[.int .i64 a0_0, .int .i64 a0_1, .int .i64 a0_2, .int .i64 a0_3, .string a0_4, .string a0_5, .string a0_6], .slice none 0 0, .int .i64 8]) (by simp [results, Tryd.f28, go_sem, q0, q1, q2, q3, q4, q5, q6]) rfl ⟨_, rfl, Kd.N_nil _ _ _ _ _, below_set7 HBB.out _ (by omega) _ _ _ _ _ _ _⟩
    · rw [if_neg c2] at H
      by_cases c5 : (argAt l1_2 2).f1.size ≤ 9223372036854775807
      · rw [if_pos c5] at H
        obtain ⟨n, hA⟩ : ∃ n : Nat, a0_0 = n := ⟨a0_0.toNat, by omega⟩
        have hn : n < 7 := by omega
        have HA := Lib.hid hA
        generalize hRR : doStep ⟨a0_0, a0_1, a0_2, a0_3, a0_4, a0_5, a0_6⟩ ⟨a1_0, a1_1, l1_2⟩ = RR at H
        obtain ⟨re, ⟨rst, rch, rfr, rbe, rus, rwo, rho⟩, rout⟩ := RR
        dsimp only at H
        have HRR := Lib.hid hRR
        have HH := Lib.hid H
        have HN := Lib.hid hn
        have H5 := Lib.hid c5
        have c3b : decide (a0_0 < 0) = false := decide_eq_false (by omega)
        have c4b : decide (7 ≤ a0_0) = false := decide_eq_false (by omega)
        have n8 : a0_0 < 7 := by omega
        have n9 : 0 ≤ a0_0 := by omega
        clear hRR H c2 c5 hn hA
        go_enter Tryd.func28, Tryd.ntmps28
        go_upto_region 7 with (go_at_call 22; refine (HR.out _ (((((Below.refl _ w).alloc (Nat.le_refl _) _).alloc (by simp) _).alloc (by simp; omega) _).alloc (by simp; omega) _)).mono ?_; rintro e w1 ⟨rfl, hb⟩; obtain ⟨b0, b1, b2, b3, hB⟩ := take_facts hb; obtain ⟨⟨x0, x1, x2, x3, x4, x5, x6⟩, -⟩ := b0.seven; have y0 := b1.cell 0; have y1 := b1.cell 1; have y2 := b1.cell 2; simp only [List.getElem?_toArray, List.getElem?_cons_zero, List.getElem?_cons_succ] at y0 y1 y2; obtain ⟨⟨z0, z1, z2, z3, z4, z5, z6⟩, ⟨f0, f1, f2, f3, f4, f5, f6⟩⟩ := b2.seven; obtain ⟨⟨s0, s1, s2, s3, s4, s5, s6⟩, -⟩ := b3.seven; have HB0 := Lib.hid b0; have HB1 := Lib.hid b1; have HB2 := Lib.hid b2; have HB3 := Lib.hid b3; have HBB := Lib.hid hB; have hsz := b3.lt; clear hb b0 b1 b2 b3 hB)
        have g4 := HB3.out.lt
        have hB0 := HB0.out.alloc (.cells #[.int .i64 a0_0, .int .i64 a0_1, .int .i64 a0_2, .int .i64 a0_3, .string a0_4, .string a0_5, .string a0_6, .int .i64 a1_0, .int .i64 a1_1, .slice A1_2 l1_2.length c1_2, .slice none 0 0] 113)
        have hB2 := HB2.out.alloc (.cells #[.int .i64 a0_0, .int .i64 a0_1, .int .i64 a0_2, .int .i64 a0_3, .string a0_4, .string a0_5, .string a0_6, .int .i64 a1_0, .int .i64 a1_1, .slice A1_2 l1_2.length c1_2, .slice none 0 0] 113)
        have hB3 := HB3.out.alloc (.cells #[.int .i64 a0_0, .int .i64 a0_1, .int .i64 a0_2, .int .i64 a0_3, .string a0_4, .string a0_5, .string a0_6, .int .i64 a1_0, .int .i64 a1_1, .slice A1_2 l1_2.length c1_2, .slice none 0 0] 113)
        have hWk : BlockIs (w1.alloc (.cells #[.int .i64 a0_0, .int .i64 a0_1, .int .i64 a0_2, .int .i64 a0_3, .string a0_4, .string a0_5, .string a0_6, .int .i64 a1_0, .int .i64 a1_1, .slice A1_2 l1_2.length c1_2, .slice none 0 0] 113)) w1.heap.size 113 (workCells ⟨a0_0, a0_1, a0_2, a0_3, a0_4, a0_5, a0_6⟩ a1_0 a1_1 A1_2 l1_2.length c1_2 (.slice none 0 0)) := BlockIs.new _ _ _
        have hBB := below_up HBB.out HBB.out.size ((Below.refl _ w1).alloc (Nat.le_refl _) (.cells #[.int .i64 a0_0, .int .i64 a0_1, .int .i64 a0_2, .int .i64 a0_3, .string a0_4, .string a0_5, .string a0_6, .int .i64 a1_0, .int .i64 a1_1, .slice A1_2 l1_2.length c1_2, .slice none 0 0] 113))
        clear HB0 HB1 HB2 HB3 HBB x0 x1 x2 x3 x4 x5 x6 y0 y1 y2 z0 z1 z2 z3 z4 z5 z6 f0 f1 f2 f3 f4 f5 f6 s0 s1 s2 s3 s4 s5 s6 hsz c3b c4b
        generalize (w1.alloc (.cells #[.int .i64 a0_0, .int .i64 a0_1, .int .i64 a0_2, .int .i64 a0_3, .string a0_4, .string a0_5, .string a0_6, .int .i64 a1_0, .int .i64 a1_1, .slice A1_2 l1_2.length c1_2, .slice none 0 0] 113)) = V at *
        generalize hg : w1.heap.size = g at *
        clear hg
        have CS := step_any g ⟨a0_0, a0_1, a0_2, a0_3, a0_4, a0_5, a0_6⟩ ⟨a1_0, a1_1, l1_2⟩ A1_2 c1_2 V hWk (Kd.C_below HC.out hBB) hc1_2 H5.out n HN.out HA.out
        rw [HRR.out] at CS
        have hsn : V.cell? ⟨w.heap.size + 1 + 1 + 1, a0_0.toNat, none⟩ = some (.func (.func (60 + n)) #[] #[]) := by
          rw [HA.out, Int.toNat_natCast, hB3.cell n]
          have := HN.out
          match n, this with
          | 0, _ => rfl
          | 1, _ => rfl
          | 2, _ => rfl
          | 3, _ => rfl
          | 4, _ => rfl
          | 5, _ => rfl
          | 6, _ => rfl
          | n + 7, h => omega
        have hB00 : V.cell? ⟨w.heap.size, 0, none⟩ = some (.int .i64 a0_0) := hB0.cell 0
        have K0 := Lib.hid hB0
        have K2 := Lib.hid hB2
        have KB := Lib.hid hBB
        clear hB0 hB2 hB3 hWk hBB
        have HN7 := HN.out
        clear HN HA
        rcases (by omega : n = 0 ∨ n = 1 ∨ n = 2 ∨ n = 3 ∨ n = 4 ∨ n = 5 ∨ n = 6) with rfl | rfl | rfl | rfl | rfl | rfl | rfl
        all_goals
          simp only [Nat.reduceAdd, Nat.add_zero] at hsn CS
          have KS := Lib.hid CS
          clear CS HN7
          go_wp2_with fail
          refine KS.out.mono ?_
          rintro e W' ⟨rfl, hb, hk⟩
          dsimp only at hk ⊢
          have hK0 := K0.out.below hb (by omega)
          have hK2 := K2.out.below hb (by omega)
          have hBV := KB.out.trans (hb.mono (by omega))
          clear KS K0 K2 KB hsn hB00 hb
          by_cases ce : re = 0
          · subst ce
            have HH' := HH.out
            rw [if_pos rfl] at HH'
            simp only [Option.some.injEq, Prod.mk.injEq] at HH'
            obtain ⟨rfl, rfl, rfl, rfl, rfl, rfl, rfl, rfl, rfl⟩ := HH'
            clear HH
            obtain ⟨v, hw, hm⟩ := hk rfl
            have hw' : BlockIs W' g 113 #[.int .i64 rst, .int .i64 rch, .int .i64 rfr, .int .i64 rbe, .string rus, .string rwo, .string rho, .int .i64 a1_0, .int .i64 a1_1, .slice A1_2 l1_2.length c1_2, v] := hw
            obtain ⟨⟨d0, d1, d2, d3, d4, d5, d6, d7, d8, d9, d10⟩, -⟩ := hw'.eleven
            obtain ⟨⟨z0, z1, z2, z3, z4, z5, z6⟩, ⟨f0, f1, f2, f3, f4, f5, f6⟩⟩ := hK2.seven
            have hgl := hw.lt
            have h2l := hK2.lt
            have KK2 := Lib.hid hK2
            have KW := Lib.hid hw'
            have KM := Lib.hid (show Kd.N k24 24 W' g (fun k => g < k) v rout from hm)
            have KBV := Lib.hid hBV
            clear hk hw hw' hm hK0 hK2 hBV
            go_upto_region 10 with fail
            generalize hp : w.heap.size + 1 + 1 = p at *
            have hpg : p ≠ g := by omega
            have hpl : p < g := by omega
            have hpw : w.heap.size ≤ p := by omega
            have hwg : w.heap.size ≤ g := by omega
            have KP := Lib.hid (show ∀ w', BlockIs w' g 113 #[.int .i64 rst, .int .i64 rch, .int .i64 rfr, .int .i64 rbe, .string rus, .string rwo, .string rho, .int .i64 a1_0, .int .i64 a1_1, .slice A1_2 l1_2.length c1_2, v] → (w'.cell? ⟨g, 0, none⟩ = some (.int .i64 rst) ∧ w'.cell? ⟨g, 1, none⟩ = some (.int .i64 rch) ∧ w'.cell? ⟨g, 2, none⟩ = some (.int .i64 rfr) ∧ w'.cell? ⟨g, 3, none⟩ = some (.int .i64 rbe) ∧ w'.cell? ⟨g, 4, none⟩ = some (.string rus) ∧ w'.cell? ⟨g, 5, none⟩ = some (.string rwo) ∧ w'.cell? ⟨g, 6, none⟩ = some (.string rho) ∧ w'.cell? ⟨g, 10, none⟩ = some v) from fun w' h1 => ⟨h1.cell 0, h1.cell 1, h1.cell 2, h1.cell 3, h1.cell 4, h1.cell 5, h1.cell 6, h1.cell 10⟩)
            have HP := Lib.hid hp
            clear hp
            go_region_held3 (fun w' => w'.cell? ⟨g, 0, none⟩ = some (.int .i64 rst) ∧ w'.cell? ⟨g, 1, none⟩ = some (.int .i64 rch) ∧ w'.cell? ⟨g, 2, none⟩ = some (.int .i64 rfr) ∧ w'.cell? ⟨g, 3, none⟩ = some (.int .i64 rbe) ∧ w'.cell? ⟨g, 4, none⟩ = some (.string rus) ∧ w'.cell? ⟨g, 5, none⟩ = some (.string rwo) ∧ w'.cell? ⟨g, 6, none⟩ = some (.string rho) ∧ w'.cell? ⟨g, 10, none⟩ = some v) ((refine KP.out _ ?_; (repeat (first | (with_reducible refine bl_drew ?_) | (with_reducible refine BlockIs.other ?_ ⟨p, _, none⟩ _ hpg))); exact KW.out)) (fail)
            go_wp2
            obtain ⟨⟨q0, q1, q2, q3, q4, q5, q6⟩, -⟩ := (KK2.out.set7 (.int .i64 rst) (.int .i64 rch) (.int .i64 rfr) (.int .i64 rbe) (.string rus) (.string rwo) (.string rho)).seven
            have hu43 := Tryd.underlying43
            refine bodyPost_ret (v := .tuple #[.agg #[.int .i64 rst, .int .i64 rch, .int .i64 rfr, .int .i64 rbe, .string rus, .string rwo, .string rho], v, .int .i64 0]) (by simp [results, Tryd.f28, go_sem, q0, q1, q2, q3, q4, q5, q6]) rfl ⟨v, rfl, ?_, ?_⟩
            · refine Kd.N_mono (Kd.N_lower (base := g) (ok := fun k => g < k) ?_ (by omega)) (fun k hk => by omega)
              repeat (first | (with_reducible exact KM.out) | (with_reducible refine Kd.N_drew ?_) | (with_reducible refine Kd.N_far (p := ⟨p, _, none⟩) ?_ (fun k hk => by show k ≠ p; omega) _))
            · repeat (first | (with_reducible exact KBV.out) | (with_reducible apply below_drew1) | (with_reducible refine Below.setCell (p := ⟨p, _, none⟩) ?_ hpw _))
          · have HH' := HH.out
            rw [if_neg ce] at HH'
            simp only [Option.some.injEq, Prod.mk.injEq] at HH'
            obtain ⟨rfl, rfl, rfl, rfl, rfl, rfl, rfl, rfl, rfl⟩ := HH'
            have ceb : (re != 0) = true := bne_iff_ne.2 ce
            obtain ⟨⟨x0, x1, x2, x3, x4, x5, x6⟩, -⟩ := hK0.seven
            obtain ⟨⟨z0, z1, z2, z3, z4, z5, z6⟩, ⟨f0, f1, f2, f3, f4, f5, f6⟩⟩ := hK2.seven
            have KK2 := Lib.hid hK2
            have KBV := Lib.hid hBV
            clear hk hK0 hK2 hBV HH ce
            go_wp2
            obtain ⟨⟨q0, q1, q2, q3, q4, q5, q6⟩, -⟩ := (KK2.out.set7 (.int .i64 a0_0) (.int .i64 a0_1) (.int .i64 a0_2) (.int .i64 a0_3) (.string a0_4) (.string a0_5) (.string a0_6)).seven
            have hu43 := Tryd.underlying43
            refine bodyPost_ret (v := .tuple #[.agg #[.int .i64 a0_0, .int .i64 a0_1, .int .i64 a0_2, .int .i64 a0_3, .string a0_4, .string a0_5, .string a0_6], .slice none 0 0, .int .i64 re]) (by simp [results, Tryd.f28, go_sem, q0, q1, q2, q3, q4, q5, q6]) rfl ⟨_, rfl, Kd.N_nil _ _ _ _ _, below_set7 KBV.out _ (by omega) _ _ _ _ _ _ _⟩
      · rw [if_neg c5] at H
        cases H
  · rw [if_neg c1] at H
    simp only [Option.some.injEq, Prod.mk.injEq] at H
    obtain ⟨rfl, rfl, rfl, rfl, rfl, rfl, rfl, rfl, rfl⟩ := H
    have c1b : (e0 != 0) = true := bne_iff_ne.2 c1
    clear c1
    go_enter Tryd.func28, Tryd.ntmps28
    go_wp2_with (go_at_call 22; refine (HR.out _ (((((Below.refl _ w).alloc (Nat.le_refl _) _).alloc (by simp) _).alloc (by simp; omega) _).alloc (by simp; omega) _)).mono ?_; rintro e w1 ⟨rfl, hb⟩; obtain ⟨b0, b1, b2, b3, hB⟩ := take_facts hb; obtain ⟨⟨x0, x1, x2, x3, x4, x5, x6⟩, -⟩ := b0.seven; have y0 := b1.cell 0; have y1 := b1.cell 1; have y2 := b1.cell 2; simp only [List.getElem?_toArray, List.getElem?_cons_zero, List.getElem?_cons_succ] at y0 y1 y2; obtain ⟨⟨z0, z1, z2, z3, z4, z5, z6⟩, ⟨f0, f1, f2, f3, f4, f5, f6⟩⟩ := b2.seven; obtain ⟨⟨s0, s1, s2, s3, s4, s5, s6⟩, -⟩ := b3.seven; have HB0 := Lib.hid b0; have HB1 := Lib.hid b1; have HB2 := Lib.hid b2; have HB3 := Lib.hid b3; have HBB := Lib.hid hB; have hsz := b3.lt; clear hb b0 b1 b2 b3 hB)
    obtain ⟨⟨q0, q1, q2, q3, q4, q5, q6⟩, -⟩ := (HB2.out.set7 (.int .i64 a0_0) (.int .i64 a0_1) (.int .i64 a0_2) (.int .i64 a0_3) (.string a0_4) (.string a0_5) (.string a0_6)).seven
    have hu43 := Tryd.underlying43
    refine bodyPost_ret (v := .tuple #[.agg #[.int .i64 a0_0, .int .i64 a0_1, .int .i64 a0_2, .int .i64 a0_3, .string a0_4, .string a0_5, .string a0_6], .slice none 0 0, .int .i64 7]) (by simp [results, Tryd.f28, go_sem, q0, q1, q2, q3, q4, q5, q6]) rfl ⟨_, rfl, Kd.N_nil _ _ _ _ _, below_set7 HBB.out _ (by omega) _ _ _ _ _ _ _⟩
end Go.Proofs.YtdogcnadopepmaaDoor.M
