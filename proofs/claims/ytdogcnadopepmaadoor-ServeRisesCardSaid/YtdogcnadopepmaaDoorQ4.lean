/- interchangelaw10.ServeRises, walked. -/
import Derived.Test.YtdogcnadopepmaaDoorC13
import Derived.Test.YtdogcnadopepmaaDoorHe43
import Derived.Test.YtdogcnadopepmaaDoorHf27
import Derived.Test.YtdogcnadopepmaaDoorHf29
import Derived.Deep.RegionHeld3
import Derived.Deep.DeepCutAuto
import Derived.Deep.LoopGhost
namespace Go.Proofs.YtdogcnadopepmaaDoor.M
open Go.RowKit Go.Proofs.YtdogcnadopepmaaDoorW.PrintWords Go.Proofs.YtdogcnadopepmaaDoorW.PrintLast Go.Proofs.YtdogcnadopepmaaDoorW.PrintMore Go.Proofs.YtdogcnadopepmaaDoor.H
set_option linter.unusedSimpArgs false
set_option linter.unusedVariables false

/-- How it is greeted. -/
def hello0 : List S24 := [⟨10, 10, [⟨0, ⟨#[]⟩⟩, ⟨9, ⟨#[]⟩⟩, ⟨0, ⟨#[0, 0, 0, 0]⟩⟩, ⟨0, ⟨#[80, 76, 65, 73, 78]⟩⟩, ⟨0, ⟨#[101, 110, 95, 85, 83]⟩⟩]⟩]
theorem greet_first (ch fr be : Int) (us wo ho : ByteArray) : serve_Greet.f 0 ch fr be us wo ho = some (1, ch, fr, be, us, wo, ho, hello0, 0) := rfl
theorem hello0_right : interchangeref10_Rights.f 700 hello0 = some true := by decide +kernel
/-- A connection's cells. -/
def handCells (h : Hd) : Array Value := #[.int .i64 h.st, .int .i64 h.ch, .int .i64 h.fr, .int .i64 h.be, .string h.us, .string h.wo, .string h.ho]
/-- Seven cells that were just made. -/
def Blk7 (w : World) (p : Nat) : Prop := BlockIs w p 43 #[.int .i64 0, .int .i64 0, .int .i64 0, .int .i64 0, .string ⟨#[]⟩, .string ⟨#[]⟩, .string ⟨#[]⟩]
theorem blk7_new {x w2 : World} (hb : Below (x.alloc (.cells #[.int .i64 0, .int .i64 0, .int .i64 0, .int .i64 0, .string ⟨#[]⟩, .string ⟨#[]⟩, .string ⟨#[]⟩] 43)).heap.size (x.alloc (.cells #[.int .i64 0, .int .i64 0, .int .i64 0, .int .i64 0, .string ⟨#[]⟩, .string ⟨#[]⟩, .string ⟨#[]⟩] 43)) w2) : Blk7 w2 x.heap.size :=
  BlockIs.below (BlockIs.new x 43 _) hb (by simp)
theorem blk7_newD {x w2 : World} (hb : Below (x.alloc (.cells #[.int .i64 0, .int .i64 0, .int .i64 0, .int .i64 0, .string ⟨#[]⟩, .string ⟨#[]⟩, .string ⟨#[]⟩] 43)).drew.heap.size (x.alloc (.cells #[.int .i64 0, .int .i64 0, .int .i64 0, .int .i64 0, .string ⟨#[]⟩, .string ⟨#[]⟩, .string ⟨#[]⟩] 43)).drew w2) : Blk7 w2 x.heap.size :=
  BlockIs.below (W := (x.alloc (.cells #[.int .i64 0, .int .i64 0, .int .i64 0, .int .i64 0, .string ⟨#[]⟩, .string ⟨#[]⟩, .string ⟨#[]⟩] 43)).drew) (BlockIs.new x 43 #[.int .i64 0, .int .i64 0, .int .i64 0, .int .i64 0, .string ⟨#[]⟩, .string ⟨#[]⟩, .string ⟨#[]⟩]) hb (by show x.heap.size < (x.alloc _).heap.size; simp)
theorem Blk7.facts {w : World} {p : Nat} (h : Blk7 w p) : (w.cell? ⟨p, 0, none⟩ = some (.int .i64 0) ∧ w.cell? ⟨p, 1, none⟩ = some (.int .i64 0) ∧ w.cell? ⟨p, 2, none⟩ = some (.int .i64 0) ∧ w.cell? ⟨p, 3, none⟩ = some (.int .i64 0) ∧ w.cell? ⟨p, 4, none⟩ = some (.string ⟨#[]⟩) ∧ w.cell? ⟨p, 5, none⟩ = some (.string ⟨#[]⟩) ∧ w.cell? ⟨p, 6, none⟩ = some (.string ⟨#[]⟩)) ∧
    (w.frozen? ⟨p, 0, none⟩ = false ∧ w.frozen? ⟨p, 1, none⟩ = false ∧ w.frozen? ⟨p, 2, none⟩ = false ∧ w.frozen? ⟨p, 3, none⟩ = false ∧ w.frozen? ⟨p, 4, none⟩ = false ∧ w.frozen? ⟨p, 5, none⟩ = false ∧ w.frozen? ⟨p, 6, none⟩ = false) ∧ Blk7 w p :=
  ⟨(BlockIs.seven h).1, (BlockIs.seven h).2, h⟩
theorem rowOf {w : World} {base : Nat} {ok : Nat → Prop} {A : Option Addr} {c : Nat} {l : List S24} (h : Kd.N k24 24 w base ok (.slice A l.length c) l) : l.length ≤ c ∧ Kd.C k24 w A l.length l := ⟨(Kd.N_reads' h).2.1, (Kd.N_reads' h).2.2⟩
theorem heap_drew (w : World) : w.drew.heap = w.heap := rfl
theorem cell_up {w w' : World} (hb : Below w.heap.size w w') (b o : Nat) (hl : b < w.heap.size) : w'.cell? ⟨b, o, none⟩ = w.cell? ⟨b, o, none⟩ := World.cell?_of_block (hb.block b hl)
/-- A tune's box, later. -/
theorem tune_box {w w1 : World} {a b c : Int} (hb : Below (w.alloc (.cells #[.int .i64 a, .int .i64 b, .int .i64 c] 40)).heap.size (w.alloc (.cells #[.int .i64 a, .int .i64 b, .int .i64 c] 40)) w1) :
    BlockIs w1 w.heap.size 40 #[.int .i64 a, .int .i64 b, .int .i64 c] ∧ Below w.heap.size w w1 :=
  ⟨(BlockIs.new w 40 _).below hb (by simp), ((Below.refl _ w).alloc (Nat.le_refl _) _).trans (hb.mono (by simp))⟩

set_option maxRecDepth 100000 in
set_option maxHeartbeats 8000000 in
theorem ServeRises_bad (a b c : Int) (A : Option Addr) (n cap : Nat) (w : World) (hWd : Wd w) (h : serve_Right.f a b c ≠ some true ∨ 60 < n) :
    Calls Tryd.prog 4 #[.agg #[.int .i64 a, .int .i64 b, .int .i64 c], .slice A n cap] w fun e w' => e = .returned (.bool true) ∧ Below w.heap.size w w' := by
  have C24 := fun W (hb : Below w.heap.size w W) => interchangelaw10_shown.calls true W rfl (hWd.up hb)
  have H24 := Lib.hid C24
  obtain ⟨rr, hrr⟩ : ∃ rr, serve_Right.f a b c = some rr := ⟨_, rfl⟩
  cases rr
  · have C25 := fun W => serve_Begin.calls a b c 0 0 0 0 ⟨#[]⟩ ⟨#[]⟩ ⟨#[]⟩ 1 W (by unfold serve_Begin.f; rw [hrr]; rfl)
    have H25 := Lib.hid C25
    clear C24 C25 hrr h hWd
    go_enter Tryd.func4, Tryd.ntmps4
    go_wp2_with fail
    refine (H24.out _ ((Below.refl _ w).alloc (Nat.le_refl _) _)).mono ?_
    rintro e0 w1 ⟨rfl, hb⟩
    obtain ⟨b0, hB⟩ := tune_box hb
    have HB := Lib.hid hB
    have x0 := b0.cell 0
    have x1 := b0.cell 1
    have x2 := b0.cell 2
    simp only [List.getElem?_toArray, List.getElem?_cons_zero, List.getElem?_cons_succ] at x0 x1 x2
    clear b0 hB hb
    dsimp only
    go_wp2_with fail
    refine (H25.out _).mono ?_
    rintro e0 w2 ⟨rfl, hb⟩
    have HB2 := Lib.hid (below_up HB.out HB.out.size hb)
    clear hb HB
    dsimp only
    go_wp2
    go_ret
    exact ⟨rfl, HB2.out.alloc HB2.out.size _⟩
  · have hn : 60 < n := by
      rcases h with h | h
      · exact absurd hrr h
      · exact h
    have C25 := fun W => serve_Begin.calls a b c 0 a b c ⟨#[]⟩ ⟨#[]⟩ ⟨#[]⟩ 0 W (by unfold serve_Begin.f; rw [hrr]; rfl)
    have H25 := Lib.hid C25
    have g1 : decide (60 < (n : Int)) = true := decide_eq_true (by omega)
    have g2 : decide (60 < n) = true := decide_eq_true hn
    clear C24 C25 hrr h hWd hn
    go_enter Tryd.func4, Tryd.ntmps4
    go_wp2_with fail
    refine (H24.out _ ((Below.refl _ w).alloc (Nat.le_refl _) _)).mono ?_
    rintro e0 w1 ⟨rfl, hb⟩
    obtain ⟨b0, hB⟩ := tune_box hb
    have HB := Lib.hid hB
    have x0 := b0.cell 0
    have x1 := b0.cell 1
    have x2 := b0.cell 2
    simp only [List.getElem?_toArray, List.getElem?_cons_zero, List.getElem?_cons_succ] at x0 x1 x2
    clear b0 hB hb
    dsimp only
    go_wp2_with fail
    refine (H25.out _).mono ?_
    rintro e0 w2 ⟨rfl, hb⟩
    have HB2 := Lib.hid (below_up HB.out HB.out.size hb)
    clear hb HB
    dsimp only
    go_wp2
    go_ret
    exact ⟨rfl, HB2.out.alloc HB2.out.size _⟩

/-- What a round of the statement is given. -/
def StepIs (I : Hd → Prop) (l : List S24) : Prop := ∀ (h : Hd) (m : S24), m ∈ l → I h → ∃ (k : Nat) (r : Res), serve_Take.f k h.st h.ch h.fr h.be h.us h.wo h.ho m.f0 m.f1 m.f2 = some (r.h.st, r.h.ch, r.h.fr, r.h.be, r.h.us, r.h.wo, r.h.ho, r.out, r.e) ∧ I r.h ∧ h.st ≤ r.h.st ∧ (r.e ≠ 0 → r.h = h ∧ r.out = []) ∧ interchangeref10_Rights.f k r.out = some true

set_option maxRecDepth 100000 in
set_option maxHeartbeats 16000000 in
theorem ServeRises_loop (a b c : Int) (A : Option Addr) (cap : Nat) (l : List S24) (w : World) (hWd : Wd w) (hC : Kd.C k24 w A l.length l) (hc : l.length ≤ cap) (hr : serve_Right.f a b c = some true) (h60 : l.length ≤ 60)
    (I : Hd → Prop) (hI0 : I ⟨1, a, b, c, ⟨#[]⟩, ⟨#[]⟩, ⟨#[]⟩⟩) (hIR : ∀ h, I h → interchangeref10_Right.f h.ch h.fr h.be = some true) (hS : StepIs I l) :
    Calls Tryd.prog 4 #[.agg #[.int .i64 a, .int .i64 b, .int .i64 c], .slice A l.length cap] w fun e w' => e = .returned (.bool true) ∧ Below w.heap.size w w' := by
  have C24 := fun W (hb : Below w.heap.size w W) => interchangelaw10_shown.calls true W rfl (hWd.up hb)
  have C25 := fun W => serve_Begin.calls a b c 0 a b c ⟨#[]⟩ ⟨#[]⟩ ⟨#[]⟩ 0 W (by unfold serve_Begin.f; rw [hr]; rfl)
  have C26 := fun W => serve_Greet.calls 0 a b c ⟨#[]⟩ ⟨#[]⟩ ⟨#[]⟩ 1 a b c ⟨#[]⟩ ⟨#[]⟩ ⟨#[]⟩ hello0 0 W (greet_first a b c ⟨#[]⟩ ⟨#[]⟩ ⟨#[]⟩)
  have H24 := Lib.hid C24
  have H25 := Lib.hid C25
  have H26 := Lib.hid C26
  have HWd := Lib.hid hWd
  have HC := Lib.hid hC
  have HI0 := Lib.hid hI0
  have HIR := Lib.hid hIR
  have HS := Lib.hid hS
  have g1 : decide (60 < (l.length : Int)) = false := decide_eq_false (by omega)
  have g2 : decide (60 < l.length) = false := decide_eq_false (by omega)
  clear C24 C25 C26 hWd hC hc hr h60 hI0 hIR hS
  go_enter Tryd.func4, Tryd.ntmps4
  go_wp2_with fail
  refine (H24.out _ ((Below.refl _ w).alloc (Nat.le_refl _) _)).mono ?_
  rintro e0 w1 ⟨rfl, hb⟩
  obtain ⟨b0, hB⟩ := tune_box hb
  have HB := Lib.hid hB
  have x0 := b0.cell 0
  have x1 := b0.cell 1
  have x2 := b0.cell 2
  simp only [List.getElem?_toArray, List.getElem?_cons_zero, List.getElem?_cons_succ] at x0 x1 x2
  clear b0 hB hb
  dsimp only
  go_wp2_with fail
  refine (H25.out _).mono ?_
  rintro e0 w2 ⟨rfl, hb⟩
  have HB2 := Lib.hid (below_up HB.out HB.out.size hb)
  clear hb HB x0 x1 x2
  dsimp only
  go_wp2_with fail
  refine (H26.out _).mono ?_
  rintro e0 w3 ⟨v7, rfl, hN, hb⟩
  have b3 : BlockIs w3 w2.heap.size 43 #[.int .i64 0, .int .i64 a, .int .i64 b, .int .i64 c, .string ⟨#[]⟩, .string ⟨#[]⟩, .string ⟨#[]⟩] := (BlockIs.new w2 43 _).below hb (by simp)
  obtain ⟨⟨z0, z1, z2, z3, z4, z5, z6⟩, ⟨f0, f1, f2, f3, f4, f5, f6⟩⟩ := b3.seven
  have hl3 := b3.lt
  have HN := Lib.hid hN
  have KB3 := Lib.hid b3
  have HB3 := Lib.hid (HB2.out.trans ((((Below.refl w2.heap.size w2).alloc (Nat.le_refl _) _).trans (hb.mono (by simp))).mono HB2.out.size))
  have hsz : w2.heap.size + 1 ≤ w3.heap.size := by have := hb.size; simp at this; omega
  have HSZ := Lib.hid hsz
  have HP := Lib.hid HB2.out.size
  clear hb b3 hN hsz HB2
  dsimp only
  go_wp2_with fail
  generalize hp : w2.heap.size = p at *
  have bp := KB3.out.set7 (.int .i64 1) (.int .i64 a) (.int .i64 b) (.int .i64 c) (.string ⟨#[]⟩) (.string ⟨#[]⟩) (.string ⟨#[]⟩)
  have hN2 : Kd.N k24 24 (((((((w3.setCell ⟨p, 0, none⟩ (.int .i64 1)).setCell ⟨p, 1, none⟩ (.int .i64 a)).setCell ⟨p, 2, none⟩ (.int .i64 b)).setCell ⟨p, 3, none⟩ (.int .i64 c)).setCell ⟨p, 4, none⟩ (.string ⟨#[]⟩)).setCell ⟨p, 5, none⟩ (.string ⟨#[]⟩)).setCell ⟨p, 6, none⟩ (.string ⟨#[]⟩)) (p + 1) (fun k_ => p + 1 ≤ k_) v7 hello0 := by
    have q : Kd.N k24 24 w3 (p + 1) (fun k_ => p + 1 ≤ k_) v7 hello0 := by
      have := HN.out
      rw [show (w2.alloc (.cells #[.int .i64 0, .int .i64 a, .int .i64 b, .int .i64 c, .string ⟨#[]⟩, .string ⟨#[]⟩, .string ⟨#[]⟩] 43)).heap.size = p + 1 by simp [hp]] at this
      exact this
    repeat (refine Kd.N_far (p := ⟨p, _, none⟩) ?_ (fun k hk => by show k ≠ p; omega) _)
    exact q
  obtain ⟨A7, c7, rfl, hl7, hC7⟩ := Kd.N_reads hN2
  have hB7 := below_set7 HB3.out p HP.out (.int .i64 1) (.int .i64 a) (.int .i64 b) (.int .i64 c) (.string ⟨#[]⟩) (.string ⟨#[]⟩) (.string ⟨#[]⟩)
  have C27 := interchangeref10_Rights.calls 700 A7 c7 hello0 true _ hC7 hl7 hello0_right
  have HBP := Lib.hid bp
  have HB7 := Lib.hid hB7
  have H27 := Lib.hid C27
  have HPP := Lib.hid HP.out
  clear bp hN2 hl7 hC7 hB7 C27 z0 z1 z2 z3 z4 z5 z6 f0 f1 f2 f3 f4 f5 f6 hl3 KB3 HB3 HSZ HN hp
  generalize (((((((w3.setCell ⟨p, 0, none⟩ (.int .i64 1)).setCell ⟨p, 1, none⟩ (.int .i64 a)).setCell ⟨p, 2, none⟩ (.int .i64 b)).setCell ⟨p, 3, none⟩ (.int .i64 c)).setCell ⟨p, 4, none⟩ (.string ⟨#[]⟩)).setCell ⟨p, 5, none⟩ (.string ⟨#[]⟩)).setCell ⟨p, 6, none⟩ (.string ⟨#[]⟩)) = w4 at *
  refine H27.out.mono ?_
  rintro e0 w5 ⟨rfl, hb⟩
  have b5 := HBP.out.below hb HBP.out.lt
  have HB5 := Lib.hid (below_up HB7.out HB7.out.size hb)
  have HP5 := Lib.hid b5
  clear hb b5 H24 H25 H26 H27 HB7 HBP g1 g2
  dsimp only
  go_wp2
  go_loopg [11] l.length (fun kq v11 wr => ∃ x : Int, v11 = .int .i64 x ∧ Aside0 (0 ≤ x ∧ x ≤ l.length) ∧ Aside0 (kq = l.length - x.toNat) ∧ Aside0 (∃ h : Hd, I h ∧ BlockIs wr p 43 (handCells h)) ∧ Aside0 (Below w.heap.size w wr))
  case atStart => exact ⟨0, rfl, ⟨by omega, by omega⟩, ⟨rfl⟩, ⟨⟨1, a, b, c, ⟨#[]⟩, ⟨#[]⟩, ⟨#[]⟩⟩, HI0.out, HP5.out⟩, ⟨HB5.out⟩⟩
  case round =>
    obtain ⟨x, rfl, hx, hk, hh, hB⟩ := hrel
    obtain ⟨h, hI, hb⟩ := hh.out
    obtain ⟨hx1, hx2⟩ := hx.out
    have hb' : BlockIs wr p 43 #[.int .i64 h.st, .int .i64 h.ch, .int .i64 h.fr, .int .i64 h.be, .string h.us, .string h.wo, .string h.ho] := hb
    obtain ⟨⟨d0, d1, d2, d3, d4, d5, d6⟩, -⟩ := hb'.seven
    have hlp := hb.lt
    have HBB := Lib.hid hb
    have HI := Lib.hid hI
    clear HI0 HP5 HB5 hh hx hb hb' hI
    by_cases c3 : x = l.length
    · have c3b : decide (x < (l.length : Int)) = false := decide_eq_false (by omega)
      have C29 := fun W => interchangeref10_Right.calls h.ch h.fr h.be true W (HIR.out h HI.out)
      have H29 := Lib.hid C29
      clear c3 hx1 hx2 C29
      go_wp2_with fail
      refine (H29.out _).mono ?_
      rintro e0 w6 ⟨rfl, hb6⟩
      have HB6 := Lib.hid (below_up hB.out hB.out.size hb6)
      clear hb6
      dsimp only
      go_wp2
      go_ret
      exact ⟨rfl, HB6.out⟩
    · have hlt : x.toNat < l.length := by omega
      have c3b : decide (x < (l.length : Int)) = true := decide_eq_true (by omega)
      have p252 : 0 ≤ (x : Int) := hx1
      have q252 : (x : Int) < (l.length : Int) := by omega
      have hCr := Kd.C_below HC.out hB.out
      obtain ⟨ad, A2, c2, e252, hx0, hx1', hx2', hl2, hC2⟩ := at_T24 hCr x p252 q252
      cases e252
      have hm : rd_T24 l x ∈ l := by
        have : rd_T24 l x = l[x.toNat] := by simp [rd_T24, hlt]
        rw [this]
        exact List.getElem_mem _
      obtain ⟨k, r, hT, hI', hup, hbad, hR⟩ := HS.out h (rd_T24 l x) hm HI.out
      generalize hmm : rd_T24 l x = m at *
      have C28 := fun (w' : World) (hi : InV wr w') => (serve_Take.calls k h.st h.ch h.fr h.be h.us h.wo h.ho m.f0 m.f1 A2 c2 m.f2 r.h.st r.h.ch r.h.fr r.h.be r.h.us r.h.wo r.h.ho r.out r.e w' (Kd.C_below hC2 hi.b) hl2 hT ((HWd.out.up hB.out).up hi.b)).mono
        (R' := fun e w2 => ∃ v7, e = .returned (.tuple #[.agg #[.int .i64 r.h.st, .int .i64 r.h.ch, .int .i64 r.h.fr, .int .i64 r.h.be, .string r.h.us, .string r.h.wo, .string r.h.ho], v7, .int .i64 r.e]) ∧ InV wr w2 ∧ Hid (Kd.N k24 24 w2 w'.heap.size (fun k_ => w'.heap.size ≤ k_) v7 r.out) ∧ Hid (Below w'.heap.size w' w2)) (fun e w2 ⟨v7, h1, h2, h3⟩ => ⟨v7, h1, hi.up h3, Lib.hid h2, Lib.hid h3⟩)
      have H28 := Lib.hid C28
      have C27 := fun W (A7 : Option Addr) (c7 : Nat) (h1 : Kd.C k24 W A7 r.out.length r.out) (h2 : r.out.length ≤ c7) => interchangeref10_Rights.calls k A7 c7 r.out true W h1 h2 hR
      have H27 := Lib.hid C27
      have hadl := World.block_lt_of_cell? wr _ hx0
      have KS := Lib.hid (show ∀ w', InV wr w' → (w'.cell? ⟨p, 0, none⟩ = some (.int .i64 h.st) ∧ w'.cell? ⟨p, 1, none⟩ = some (.int .i64 h.ch) ∧ w'.cell? ⟨p, 2, none⟩ = some (.int .i64 h.fr) ∧ w'.cell? ⟨p, 3, none⟩ = some (.int .i64 h.be) ∧ w'.cell? ⟨p, 4, none⟩ = some (.string h.us) ∧ w'.cell? ⟨p, 5, none⟩ = some (.string h.wo) ∧ w'.cell? ⟨p, 6, none⟩ = some (.string h.ho) ∧
          w'.cell? (ad.add (x.toNat * 3)) = some (.int .i64 m.f0) ∧ w'.cell? ⟨(ad.add (x.toNat * 3)).block, (ad.add (x.toNat * 3)).off + 1, none⟩ = some (.int .i64 m.f1) ∧ w'.cell? ⟨(ad.add (x.toNat * 3)).block, (ad.add (x.toNat * 3)).off + 2, none⟩ = some (.slice A2 m.f2.length c2) ∧ InV wr w') from fun w' hi =>
        have b := HBB.out.below hi.b HBB.out.lt
        ⟨b.cell 0, b.cell 1, b.cell 2, b.cell 3, b.cell 4, b.cell 5, b.cell 6, (World.cell?_of_block (hi.b.block _ hadl)).trans hx0, (cell_up hi.b _ _ hadl).trans hx1', (cell_up hi.b _ _ hadl).trans hx2', hi⟩)
      have KI := Lib.hid (show ∀ w' : World, (w'.cell? ⟨p, 0, none⟩ = some (.int .i64 h.st) ∧ w'.cell? ⟨p, 1, none⟩ = some (.int .i64 h.ch) ∧ w'.cell? ⟨p, 2, none⟩ = some (.int .i64 h.fr) ∧ w'.cell? ⟨p, 3, none⟩ = some (.int .i64 h.be) ∧ w'.cell? ⟨p, 4, none⟩ = some (.string h.us) ∧ w'.cell? ⟨p, 5, none⟩ = some (.string h.wo) ∧ w'.cell? ⟨p, 6, none⟩ = some (.string h.ho) ∧ w'.cell? (ad.add (x.toNat * 3)) = some (.int .i64 m.f0) ∧ w'.cell? ⟨(ad.add (x.toNat * 3)).block, (ad.add (x.toNat * 3)).off + 1, none⟩ = some (.int .i64 m.f1) ∧ w'.cell? ⟨(ad.add (x.toNat * 3)).block, (ad.add (x.toNat * 3)).off + 2, none⟩ = some (.slice A2 m.f2.length c2) ∧ InV wr w') → InV wr w' from fun w' ⟨_, _, _, _, _, _, _, _, _, _, hi⟩ => hi)
      have HF := Lib.hid (show I r.h ∧ h.st ≤ r.h.st ∧ (r.e ≠ 0 → r.h = h ∧ r.out = []) from ⟨hI', hup, hbad⟩)
      have HQ := Lib.hid q252
      have hwx : wrap64 (x + 1) = x + 1 := by
        have := Kd.C_max HC.out
        simp only [wrap64]
        omega
      have HWX := Lib.hid hwx
      clear hwx hT hI' hup hbad hR hm hlt c3 C28 C27 hCr hl2 hC2 hmm hx2
      go_upto_region 10 with fail
      go_cut [12, 13, 14] (fun v12 v13 v14 wc => ∃ (q : Nat) (A7 : Option Addr) (c7 : Nat), v12 = .pointer (some ⟨q, 0, none⟩) ∧ v13 = .slice A7 r.out.length c7 ∧ v14 = .int .i64 r.e ∧ Aside0 (InV wr wc) ∧ Aside0 (BlockIs wc q 43 (handCells r.h)) ∧ Aside0 (wr.heap.size ≤ q) ∧ Aside0 (r.out.length ≤ c7 ∧ Kd.C k24 wc A7 r.out.length r.out))
      case first =>
       go_region_held3 (fun w' => w'.cell? ⟨p, 0, none⟩ = some (.int .i64 h.st) ∧ w'.cell? ⟨p, 1, none⟩ = some (.int .i64 h.ch) ∧ w'.cell? ⟨p, 2, none⟩ = some (.int .i64 h.fr) ∧ w'.cell? ⟨p, 3, none⟩ = some (.int .i64 h.be) ∧ w'.cell? ⟨p, 4, none⟩ = some (.string h.us) ∧ w'.cell? ⟨p, 5, none⟩ = some (.string h.wo) ∧ w'.cell? ⟨p, 6, none⟩ = some (.string h.ho) ∧ w'.cell? (ad.add (x.toNat * 3)) = some (.int .i64 m.f0) ∧ w'.cell? ⟨(ad.add (x.toNat * 3)).block, (ad.add (x.toNat * 3)).off + 1, none⟩ = some (.int .i64 m.f1) ∧ w'.cell? ⟨(ad.add (x.toNat * 3)).block, (ad.add (x.toNat * 3)).off + 2, none⟩ = some (.slice A2 m.f2.length c2) ∧ InV wr w')
        ((with_reducible refine KS.out _ ?_; repeat (first | (with_reducible assumption) | (with_reducible exact InV.refl _) | (with_reducible apply InV.drew) | (with_reducible apply InV.alloc) | (refine InV.set ?_ (by first | exact Nat.le_refl _ | exact hi0.b.size) _ _))))
        (first | (go_at_call 28; refine (H28.out _ ?_).mono ?_; (first | (with_reducible assumption) | (with_reducible exact InV.refl _) | (with_reducible exact (InV.refl _).drew) | (with_reducible exact ((InV.refl _).alloc _).drew) | (with_reducible exact (InV.refl _).drew.alloc _) | (with_reducible exact (InV.refl _).alloc _) | (with_reducible refine KI.out _ ?_; with_reducible assumption) | (refine KI.out _ ?_; assumption)); rintro e w0 ⟨v7, rfl, hi0, hn0, hb0⟩; (try (have q := (blk7_new hb0.out).facts; obtain ⟨⟨q0, q1, q2, q3, q4, q5, q6⟩, ⟨r0, r1, r2, r3, r4, r5, r6⟩, qb⟩ := q; have qb' : BlockIs w0 _ 43 #[.int .i64 0, .int .i64 0, .int .i64 0, .int .i64 0, .string ⟨#[]⟩, .string ⟨#[]⟩, .string ⟨#[]⟩] := qb)); (try (have q := (blk7_newD hb0.out).facts; obtain ⟨⟨q0, q1, q2, q3, q4, q5, q6⟩, ⟨r0, r1, r2, r3, r4, r5, r6⟩, qb⟩ := q; have qb' : BlockIs w0 _ 43 #[.int .i64 0, .int .i64 0, .int .i64 0, .int .i64 0, .string ⟨#[]⟩, .string ⟨#[]⟩, .string ⟨#[]⟩] := qb))))
       all_goals
        obtain ⟨A8, c8, rfl, -, -⟩ := Kd.N_reads hn0.out
        go_wp2
        go_meet
        case rel =>
          refine ⟨_, A8, c8, rfl, rfl, rfl, ⟨?_⟩, ⟨?_⟩, ⟨?_⟩, ⟨?_⟩⟩
          · repeat (first | (with_reducible assumption) | (with_reducible apply InV.drew) | (with_reducible apply InV.alloc) | (with_reducible refine InV.set ?_ (Nat.le_refl _) _ _))
          · show BlockIs _ _ 43 #[.int .i64 r.h.st, .int .i64 r.h.ch, .int .i64 r.h.fr, .int .i64 r.h.be, .string r.h.us, .string r.h.wo, .string r.h.ho]
            repeat (with_reducible refine bl_drew ?_)
            first
            | (with_reducible exact BlockIs.new _ _ _)
            | (with_reducible exact BlockIs.set7 qb' _ _ _ _ _ _ _)
          · first | (with_reducible exact Nat.le_refl _) | (with_reducible exact hi0.b.size) | exact hi0.b.size
          · first
            | (with_reducible exact rowOf (Kd.N_alloc hn0.out _))
            | (with_reducible exact rowOf (Kd.N_drew (Kd.N_alloc hn0.out _)))
            | (have hn2 : Kd.N k24 24 w0 (wr.heap.size + 1) (fun k => wr.heap.size + 1 ≤ k) (.slice A8 r.out.length c8) r.out := by
                 have hn3 := hn0.out
                 simp only [World.size_alloc, heap_drew] at hn3
                 with_reducible exact hn3
               refine rowOf (base := wr.heap.size + 1) (ok := fun k => wr.heap.size + 1 ≤ k) ?_
               repeat (first | (with_reducible refine Kd.N_drew ?_) | (with_reducible refine Kd.N_far (p := ⟨wr.heap.size, _, none⟩) ?_ (fun k hk => by show k ≠ wr.heap.size; omega) _))
               with_reducible exact hn2)
      case rest =>
        obtain ⟨q, A8, c8, rfl, rfl, rfl, hI2, hbq, hq, hN2⟩ := hcut
        have hbp := HBB.out.below hI2.out.b HBB.out.lt
        have hBw := below_up hB.out hB.out.size hI2.out.b
        have hqp : q ≠ p := by have := HBB.out.lt; have := hq.out; omega
        have C27 := H27.out wc A8 c8 hN2.out.2 hN2.out.1
        have K27 := Lib.hid C27
        have KBP := Lib.hid hbp
        have KBQ := Lib.hid hbq.out
        have KBW := Lib.hid hBw
        clear hI2 hbq hq hN2 C27 hbp hBw H27 H28 KS KI HBB hB d0 d1 d2 d3 d4 d5 d6 hx0 hx1' hx2' hadl hlp
        go_wp2_with fail
        refine K27.out.mono ?_
        rintro e0 w9 ⟨rfl, hb9⟩
        have hbp := KBP.out.below hb9 KBP.out.lt
        have hbq := KBQ.out.below hb9 KBQ.out.lt
        have hB9 := below_up KBW.out KBW.out.size hb9
        obtain ⟨hI', hup, hbad⟩ := HF.out
        have HI' := Lib.hid hI'
        have u1 : decide (r.h.st < h.st) = false := decide_eq_false (by omega)
        have hbp' : BlockIs w9 p 43 #[.int .i64 h.st, .int .i64 h.ch, .int .i64 h.fr, .int .i64 h.be, .string h.us, .string h.wo, .string h.ho] := hbp
        have hbq' : BlockIs w9 q 43 #[.int .i64 r.h.st, .int .i64 r.h.ch, .int .i64 r.h.fr, .int .i64 r.h.be, .string r.h.us, .string r.h.wo, .string r.h.ho] := hbq
        have hpw : w.heap.size ≤ p := HPP.out
        have hlq := hbq.lt
        have hlp := hbp.lt
        have KP9 := Lib.hid hbp'
        have KQ9 := Lib.hid hbq'
        have KB9 := Lib.hid hB9
        have HU := Lib.hid hpw
        clear hb9 hbp hbq hB9 hI' HF K27 KBP KBQ KBW hpw
        dsimp only
        by_cases ce : r.e = 0
        · have ceb : (r.e != 0) = false := by rw [ce]; rfl
          obtain ⟨⟨d0, d1, d2, d3, d4, d5, d6⟩, ⟨f0, f1, f2, f3, f4, f5, f6⟩⟩ := hbp'.seven
          obtain ⟨⟨k0, k1, k2, k3, k4, k5, k6⟩, -⟩ := hbq'.seven
          clear ce hup hbad hbp' hbq'
          go_wp2
          go_roundg (l.length - (x + 1).toNat)
          case measure => have := HQ.out; have := hk.out; omega
          case rel => exact ⟨x + 1, congrArg _ HWX.out, ⟨by have := HQ.out; omega, by have := HQ.out; omega⟩, ⟨rfl⟩, ⟨r.h, HI'.out, KP9.out.set7 _ _ _ _ _ _ _⟩, ⟨below_set7 KB9.out p HU.out _ _ _ _ _ _ _⟩⟩
        · have ceb : (r.e != 0) = true := bne_iff_ne.2 ce
          obtain ⟨hrh, hro⟩ := hbad ce
          have E43 := fun W => eqA43 9997 W h.st h.st h.ch h.ch h.fr h.fr h.be h.be h.us h.us h.wo h.wo h.ho h.ho
          have hlen : r.out.length = 0 := by rw [hro]; rfl
          rw [hrh] at hbq' u1
          obtain ⟨⟨d0, d1, d2, d3, d4, d5, d6⟩, ⟨f0, f1, f2, f3, f4, f5, f6⟩⟩ := hbp'.seven
          obtain ⟨⟨k0, k1, k2, k3, k4, k5, k6⟩, -⟩ := hbq'.seven
          clear ce hup hbad hbp' hbq' hrh hro
          go_wp2
          go_roundg (l.length - (x + 1).toNat)
          case measure => have := HQ.out; have := hk.out; omega
          case rel => exact ⟨x + 1, congrArg _ HWX.out, ⟨by have := HQ.out; omega, by have := HQ.out; omega⟩, ⟨rfl⟩, ⟨h, HI.out, KP9.out.set7 _ _ _ _ _ _ _⟩, ⟨below_set7 KB9.out p HU.out _ _ _ _ _ _ _⟩⟩
end Go.Proofs.YtdogcnadopepmaaDoor.M
