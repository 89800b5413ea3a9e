/- serve: tune-ok. -/
import Derived.Test.YtdogcnadopepmaaDoorG5
import Derived.Deep.RegionHeld3
import Derived.Deep.DeepCutAuto
namespace Go.Proofs.YtdogcnadopepmaaDoor.M
open Go.RowKit Go.Proofs.YtdogcnadopepmaaDoorW.PrintWords Go.Proofs.YtdogcnadopepmaaDoorW.PrintLast Go.Proofs.YtdogcnadopepmaaDoorW.PrintMore Go.Proofs.YtdogcnadopepmaaDoor.H
set_option linter.unusedSimpArgs false
set_option linter.unusedVariables false
attribute [local go_sem] field56_0 field56_1 max2_int min2_int max_two min_two

/-- What lay in a world lies in a later one. -/
structure InV (V w : World) : Prop where
  b : Below V.heap.size V w
theorem InV.refl (V : World) : InV V V := ⟨Below.refl _ _⟩
theorem InV.drew {V w : World} (h : InV V w) : InV V w.drew := ⟨pw_below_drewN h.b 1⟩
theorem InV.alloc {V w : World} (h : InV V w) (o : Obj) : InV V (w.alloc o) := ⟨h.b.alloc h.b.size o⟩
theorem InV.set {V w : World} (h : InV V w) {p : Nat} (hp : V.heap.size ≤ p) (j : Nat) (v : Value) : InV V (w.setCell ⟨p, j, none⟩ v) := ⟨h.b.setCell (p := ⟨p, j, none⟩) hp v⟩
/-- Three numbers that were just made. -/
def Blk3 (w : World) (p : Nat) : Prop := BlockIs w p 40 #[.int .i64 0, .int .i64 0, .int .i64 0]
theorem Blk3.facts {w : World} {p : Nat} (h : Blk3 w p) : (w.cell? ⟨p, 0, none⟩ = some (.int .i64 0) ∧ w.cell? ⟨p, 1, none⟩ = some (.int .i64 0) ∧ w.cell? ⟨p, 2, none⟩ = some (.int .i64 0)) ∧ (w.frozen? ⟨p, 0, none⟩ = false ∧ w.frozen? ⟨p, 1, none⟩ = false ∧ w.frozen? ⟨p, 2, none⟩ = false) ∧ Blk3 w p :=
  ⟨⟨BlockIs.cell h 0, BlockIs.cell h 1, BlockIs.cell h 2⟩, ⟨BlockIs.frozen h 0, BlockIs.frozen h 1, BlockIs.frozen h 2⟩, h⟩
theorem blk3_new {x w2 : World} (hb : Below (x.alloc (.cells #[.int .i64 0, .int .i64 0, .int .i64 0] 40)).heap.size (x.alloc (.cells #[.int .i64 0, .int .i64 0, .int .i64 0] 40)) w2) : Blk3 w2 x.heap.size :=
  BlockIs.below (BlockIs.new x 40 _) hb (by simp)
theorem blk3_newD {x w2 : World} (hb : Below (x.alloc (.cells #[.int .i64 0, .int .i64 0, .int .i64 0] 40)).drew.heap.size (x.alloc (.cells #[.int .i64 0, .int .i64 0, .int .i64 0] 40)).drew w2) : Blk3 w2 x.heap.size :=
  BlockIs.below (W := (x.alloc (.cells #[.int .i64 0, .int .i64 0, .int .i64 0] 40)).drew) (BlockIs.new x 40 #[.int .i64 0, .int .i64 0, .int .i64 0]) hb (by show x.heap.size < (x.alloc _).heap.size; simp)
theorem blk3_old {x w2 : World} {p : Nat} (hb : Below x.heap.size x w2) (h : Blk3 x p) : Blk3 w2 p := BlockIs.below h hb h.lt
/-- What a later world has of an elder one, as rules for a walk. -/
abbrev Same (w w2 : World) : Prop := (∀ p j : Nat, p < w.heap.size → w2.cell? ⟨p, j, none⟩ = w.cell? ⟨p, j, none⟩) ∧ (∀ p j : Nat, p < w.heap.size → w2.frozen? ⟨p, j, none⟩ = w.frozen? ⟨p, j, none⟩) ∧ ∀ p : Nat, p < w.heap.size → p < w2.heap.size
theorem same_of {w w2 : World} (h : Below w.heap.size w w2) : Same w w2 :=
  ⟨fun p j hp => World.cell?_of_block (h.block p hp), fun p j hp => World.frozen?_of_block (h.block p hp), fun p hp => Nat.lt_of_lt_of_le hp h.size⟩
theorem InV.up {V w w' : World} (h : InV V w) (k : Below w.heap.size w w') : InV V w' := ⟨below_up h.b h.b.size k⟩

set_option maxRecDepth 100000 in
set_option maxHeartbeats 2000000 in
theorem argClo_any (g b : Nat) (h : Hd) (m : S24) (A : Option Addr) (cap : Nat) (v : Value) (j : Nat) (W : World) (hb : BlockIs W g 113 (workCells h m.f0 m.f1 A m.f2.length cap v)) (h1 : BlockIs W b 110 #[.pointer (some ⟨g, 0, none⟩)])
    (hr : Kd.C k56 W A m.f2.length m.f2) (hc : m.f2.length ≤ cap) :
    Calls Tryd.prog 100 #[.int .i64 (j : Int), .pointer (some ⟨b, 0, none⟩)] W fun e w' => e = .returned (.int .i64 (intAt m.f2 j)) ∧ Below W.heap.size W w' := by
  have c7 := hb.cell 7
  have c8 := hb.cell 8
  have c9 := hb.cell 9
  have c1 := h1.cell 0
  simp only [workCells, List.getElem?_toArray, List.getElem?_cons_zero, List.getElem?_cons_succ] at c7 c8 c9 c1
  have k1 := h1.lt
  have k2 := hb.lt
  have C98 := arg_any m.f0 m.f1 A cap m.f2 j W hr hc
  have H98 := Lib.hid C98
  clear hb h1 hr hc C98
  go_enter Tryd.func100, Tryd.ntmps100
  go_wp2_with (go_at_call 98; refine H98.out.mono ?_; rintro e w' ⟨rfl, hb⟩; have HB := Lib.hid hb; clear hb)
  go_ret
  exact ⟨rfl, HB.out⟩

theorem wp_world {P : Program} {c : Code} {Q : Exit → Act → World → Prop} {a : Act} {w : World} (F : World → Prop) (hF : F w) (h : ∀ X, F X → Code.wp P c Q a X) : Code.wp P c Q a w := h w hF
theorem bl_drewN {W : World} {B : Nat} {t : TypeId} {cs : Array Value} (h : BlockIs W B t cs) (m : Nat) : BlockIs (W.drewN m) B t cs := h
theorem bl_drew {W : World} {B : Nat} {t : TypeId} {cs : Array Value} (h : BlockIs W B t cs) : BlockIs W.drew B t cs := h

set_option maxRecDepth 100000 in
set_option maxHeartbeats 2000000 in
theorem tune_any (g : Nat) (h : Hd) (m : S24) (A : Option Addr) (cap : Nat) (W : World) (hb : BlockIs W g 113 (workCells h m.f0 m.f1 A m.f2.length cap (.slice none 0 0))) (hr : Kd.C k56 W A m.f2.length m.f2) (hc : m.f2.length ≤ cap) :
    Calls Tryd.prog 62 #[.pointer (some ⟨g, 0, none⟩)] W (StepPost g m A cap (doTune h m) W) := by
  have hg := hb.lt
  have C97 := fun (V : World) (i : Int) (hv : Below W.heap.size W V) => (workIs_any g m i V ((hb.below hv hg).cell 7) ((hb.below hv hg).cell 8)).mono (R' := fun e w' => e = .returned (.bool (isM m i)) ∧ V = w') (fun e w' h => ⟨h.1, h.2.symm⟩)
  have bP := BlockIs.new W 110 #[.pointer (some ⟨g, 0, none⟩)]
  have hP : Below W.heap.size W (W.alloc (.cells #[.pointer (some ⟨g, 0, none⟩)] 110)) := (Below.refl _ W).alloc (Nat.le_refl _) _
  have C64 := ends_any g h m A cap _ _ (hb.below hP hg)
  have H97 := Lib.hid (fun i => C97 _ i hP)
  have H64 := Lib.hid C64
  have HB := Lib.hid hb
  have HP := Lib.hid bP
  have HR := Lib.hid hr
  have HC := Lib.hid hc
  clear C97 C64 hb bP hP hr hc
  unfold doTune
  by_cases c : isM m 31 = true
  · rw [if_pos c]
    generalize hRR : (if intAt m.f2 0 > h.ch ∨ intAt m.f2 1 > h.fr ∨ (intAt m.f2 1 ≠ 0 ∧ intAt m.f2 1 < 4096) then (⟨14, h, []⟩ : Res) else ⟨0, { h with st := 3, ch := if intAt m.f2 0 = 0 then h.ch else intAt m.f2 0, fr := if intAt m.f2 1 = 0 then h.fr else intAt m.f2 1, be := min (intAt m.f2 2) h.be }, []⟩) = R
    have HRR := Lib.hid hRR
    clear hRR
    go_enter Tryd.func62, Tryd.ntmps62
    go_upto_region 4 with (go_at_call 97; refine (H97.out _).mono ?_; rintro e w' ⟨rfl, rfl⟩)
    have hbV : BlockIs (W.alloc (.cells #[.pointer (some ⟨g, 0, none⟩)] 110)) g 113 (workCells h m.f0 m.f1 A m.f2.length cap (.slice none 0 0)) := HB.out.alloc _
    have hpV := HP.out
    have hrV : Kd.C k56 (W.alloc (.cells #[.pointer (some ⟨g, 0, none⟩)] 110)) A m.f2.length m.f2 := Kd.C_below HR.out ((Below.refl _ W).alloc (Nat.le_refl _) _)
    have hlV : Below g W (W.alloc (.cells #[.pointer (some ⟨g, 0, none⟩)] 110)) := (Below.refl g W).alloc (by omega) _
    have hne : g ≠ W.heap.size := by omega
    clear HB HP HR H64 H97
    generalize W.heap.size = b at *
    generalize W.alloc (.cells #[.pointer (some ⟨g, 0, none⟩)] 110) = V at *
    have keepS : ∀ w', InV V w' → (w'.cell? ⟨b, 0, none⟩ = some (.pointer (some ⟨g, 0, none⟩)) ∧ w'.cell? ⟨g, 3, none⟩ = some (.int .i64 h.be) ∧ InV V w') := fun w' hi =>
      ⟨(hpV.below hi.b hpV.lt).cell 0, (hbV.below hi.b hbV.lt).cell 3, hi⟩
    have C100 := fun (j : Nat) (w' : World) (hi : InV V w') => (argClo_any g b h m A cap (.slice none 0 0) j w' (hbV.below hi.b hbV.lt) (hpV.below hi.b hpV.lt) (Kd.C_below hrV hi.b) HC.out).mono (R' := fun e w2 => e = .returned (.int .i64 (intAt m.f2 j)) ∧ InV V w2 ∧ Hid (Below w'.heap.size w' w2)) (fun e w2 h => ⟨h.1, hi.up h.2, Lib.hid h.2⟩)
    have KS := Lib.hid keepS
    have H100 := Lib.hid (show ∀ w', InV V w' → Calls Tryd.prog 100 #[.int .i64 0, .pointer (some ⟨b, 0, none⟩)] w' (fun e w2 => e = .returned (.int .i64 (intAt m.f2 0)) ∧ InV V w2 ∧ Hid (Below w'.heap.size w' w2)) from C100 0)
    have H101 := Lib.hid (show ∀ w', InV V w' → Calls Tryd.prog 100 #[.int .i64 1, .pointer (some ⟨b, 0, none⟩)] w' (fun e w2 => e = .returned (.int .i64 (intAt m.f2 1)) ∧ InV V w2 ∧ Hid (Below w'.heap.size w' w2)) from C100 1)
    have H102 := Lib.hid (show ∀ w', InV V w' → Calls Tryd.prog 100 #[.int .i64 2, .pointer (some ⟨b, 0, none⟩)] w' (fun e w2 => e = .returned (.int .i64 (intAt m.f2 2)) ∧ InV V w2 ∧ Hid (Below w'.heap.size w' w2)) from C100 2)
    have HBV := Lib.hid hbV
    have HPV := Lib.hid hpV
    have HLV := Lib.hid hlV
    clear keepS C100 hbV hpV hrV hlV HC
    obtain ⟨mn, hmn⟩ : ∃ mn, (if h.be < intAt m.f2 2 then h.be else intAt m.f2 2) = mn := ⟨_, rfl⟩
    go_cut [4] (fun v4 wc => ∃ p, v4 = .pointer (some ⟨p, 0, none⟩) ∧ Aside0 (InV V wc) ∧ Aside0 (BlockIs wc p 40 #[.int .i64 (intAt m.f2 0), .int .i64 (intAt m.f2 1), .int .i64 mn]) ∧ Aside0 (V.heap.size ≤ p))
    case first =>
     go_region_held3 (fun w' => w'.cell? ⟨b, 0, none⟩ = some (.pointer (some ⟨g, 0, none⟩)) ∧ w'.cell? ⟨g, 3, none⟩ = some (.int .i64 h.be) ∧ InV V w')
      ((refine KS.out _ ?_; repeat (first | assumption | exact InV.refl _ | apply InV.drew | apply InV.alloc | (refine InV.set ?_ (by first | exact Nat.le_refl _ | exact hi0.b.size | exact hi1.b.size | exact hi2.b.size) _ _))))
      (first | (go_at_call_of 100 (Value.int .i64 0); refine (H100.out _ ?_).mono ?_; (first | assumption | exact And.right (And.right (by assumption))); rintro e w0 ⟨rfl, hi0, hb0⟩; (try (have q := (blk3_new hb0.out).facts; obtain ⟨⟨q0, q1, q2⟩, ⟨r0, r1, r2⟩, qb⟩ := q)); (try (have q := (blk3_newD hb0.out).facts; obtain ⟨⟨q0, q1, q2⟩, ⟨r0, r1, r2⟩, qb⟩ := q)); (try (have q := (blk3_old hb0.out qb).facts; obtain ⟨⟨q0, q1, q2⟩, ⟨r0, r1, r2⟩, qb⟩ := q))) | (go_at_call_of 100 (Value.int .i64 1); refine (H101.out _ ?_).mono ?_; (first | assumption | exact And.right (And.right (by assumption))); rintro e w1 ⟨rfl, hi1, hb1⟩; (try (have q := (blk3_new hb1.out).facts; obtain ⟨⟨q0, q1, q2⟩, ⟨r0, r1, r2⟩, qb⟩ := q)); (try (have q := (blk3_newD hb1.out).facts; obtain ⟨⟨q0, q1, q2⟩, ⟨r0, r1, r2⟩, qb⟩ := q)); (try (have q := (blk3_old hb1.out qb).facts; obtain ⟨⟨q0, q1, q2⟩, ⟨r0, r1, r2⟩, qb⟩ := q))) | (go_at_call_of 100 (Value.int .i64 2); refine (H102.out _ ?_).mono ?_; (first | assumption | exact And.right (And.right (by assumption))); rintro e w2 ⟨rfl, hi2, hb2⟩; (try (have q := (blk3_new hb2.out).facts; obtain ⟨⟨q0, q1, q2⟩, ⟨r0, r1, r2⟩, qb⟩ := q)); (try (have q := (blk3_newD hb2.out).facts; obtain ⟨⟨q0, q1, q2⟩, ⟨r0, r1, r2⟩, qb⟩ := q)); (try (have q := (blk3_old hb2.out qb).facts; obtain ⟨⟨q0, q1, q2⟩, ⟨r0, r1, r2⟩, qb⟩ := q))))
     all_goals
      go_wp2
      go_meet
      case rel =>
        refine ⟨_, rfl, ⟨?_⟩, ⟨?_⟩, ⟨?_⟩⟩
        · repeat (first | assumption | exact InV.refl _ | apply InV.drew | apply InV.alloc | (refine InV.set ?_ (by first | exact Nat.le_refl _ | exact hi0.b.size | exact hi1.b.size | exact hi2.b.size) _ _))
        · first | exact BlockIs.new _ _ _ | exact ((BlockIs.set qb 0 _).set 1 _).set 2 _
        · first | exact Nat.le_refl _ | exact hi0.b.size | exact hi1.b.size | exact hi2.b.size
    case rest =>
      obtain ⟨p, rfl, hI, hB3, hp⟩ := hcut
      have hbU := HBV.out.below hI.out.b HBV.out.lt
      have hpU := HPV.out.below hI.out.b HPV.out.lt
      have hlU : Below g W wc := HLV.out.trans ⟨hI.out.b.os, hI.out.b.tape, hI.out.b.output, hI.out.b.size, fun k hk => hI.out.b.block k (by have := HBV.out.lt; omega)⟩
      have hpg : p ≠ g := by have := HBV.out.lt; have := hp.out; omega
      have hpb : p ≠ b := by have := HPV.out.lt; have := hp.out; omega
      obtain ⟨d0, d1, d2⟩ : wc.cell? ⟨p, 0, none⟩ = some (.int .i64 (intAt m.f2 0)) ∧ wc.cell? ⟨p, 1, none⟩ = some (.int .i64 (intAt m.f2 1)) ∧ wc.cell? ⟨p, 2, none⟩ = some (.int .i64 mn) := ⟨hB3.out.cell 0, hB3.out.cell 1, hB3.out.cell 2⟩
      obtain ⟨e0, e1, e2⟩ : wc.frozen? ⟨p, 0, none⟩ = false ∧ wc.frozen? ⟨p, 1, none⟩ = false ∧ wc.frozen? ⟨p, 2, none⟩ = false := ⟨hB3.out.frozen 0, hB3.out.frozen 1, hB3.out.frozen 2⟩
      have db : wc.cell? ⟨b, 0, none⟩ = some (.pointer (some ⟨g, 0, none⟩)) := hpU.cell 0
      have g1 : wc.cell? ⟨g, 1, none⟩ = some (.int .i64 h.ch) := hbU.cell 1
      have g2 : wc.cell? ⟨g, 2, none⟩ = some (.int .i64 h.fr) := hbU.cell 2
      have g0 : wc.cell? ⟨g, 0, none⟩ = some (.int .i64 h.st) := hbU.cell 0
      have g3 : wc.cell? ⟨g, 3, none⟩ = some (.int .i64 h.be) := hbU.cell 3
      obtain ⟨k0, k1, k2, k3⟩ : wc.frozen? ⟨g, 0, none⟩ = false ∧ wc.frozen? ⟨g, 1, none⟩ = false ∧ wc.frozen? ⟨g, 2, none⟩ = false ∧ wc.frozen? ⟨g, 3, none⟩ = false := ⟨hbU.frozen 0, hbU.frozen 1, hbU.frozen 2, hbU.frozen 3⟩
      have hn1 : (⟨p, 0, none⟩ : Addr).block ≠ g := hpg
      have e4 : min (intAt m.f2 2) h.be = mn := by rw [← hmn]; split <;> omega
      have hgp : g ≤ p := by have := HBV.out.lt; have := hp.out; omega
      have hbg : b ≠ g := fun e => hne e.symm
      have hgp1 : g ≠ p := fun e => hpg e.symm
      have hgb1 : g ≠ b := hne
      have hRR := HRR.out
      rw [e4] at hRR
      clear HRR
      generalize intAt m.f2 0 = a0 at *
      generalize intAt m.f2 1 = a1 at *
      generalize intAt m.f2 2 = a2 at *
      have HBU := Lib.hid hbU
      have HPU := Lib.hid hpU
      have HLU := Lib.hid hlU
      have HB3 := Lib.hid hB3.out
      have hgl := hbU.lt
      have hpl := BlockIs.lt hB3.out
      clear hbU hpU hlU hI hB3 HBV HPV HLV KS H100 H101 H102 hmn e4 hp hn1
      by_cases c1 : a0 > h.ch
      · have c1b : decide (h.ch < a0) = true := decide_eq_true c1
        rw [if_pos (.inl c1)] at hRR
        subst hRR
        clear c1
        go_wp2
        repeat (go_quiet (fail); try go_wp2)
        go_ret
        exact ⟨rfl, by repeat (first | (with_reducible exact HLU.out) | with_reducible apply pw_below_drewN), fun e => by cases e⟩
      · have c1b : decide (h.ch < a0) = false := decide_eq_false c1
        by_cases c2 : a1 > h.fr
        · have c2b : decide (h.fr < a1) = true := decide_eq_true c2
          rw [if_pos (.inr (.inl c2))] at hRR
          subst hRR
          clear c1 c2
          go_wp2
          repeat (go_quiet (fail); try go_wp2)
          go_ret
          exact ⟨rfl, by repeat (first | (with_reducible exact HLU.out) | with_reducible apply pw_below_drewN), fun e => by cases e⟩
        · have c2b : decide (h.fr < a1) = false := decide_eq_false c2
          by_cases c3 : a1 = 0
          · subst c3
            rw [if_neg (by omega), if_pos rfl] at hRR
            have hf0 : decide (h.fr < 0) = false := c2b
            clear c1 c2
            by_cases c5 : a0 = 0
            · subst c5
              rw [if_pos rfl] at hRR
              subst hRR
              go_wp2
              repeat (go_quiet (fail); try go_wp2)
              refine wp_world (fun X => BlockIs X p 40 #[.int .i64 h.ch, .int .i64 h.fr, .int .i64 mn] ∧ BlockIs X b 110 #[.pointer (some ⟨g, 0, none⟩)] ∧ BlockIs X g 113 (workCells h m.f0 m.f1 A m.f2.length cap (.slice none 0 0)) ∧ Below g W X) ?_ ?_
              · refine ⟨?_, ?_, ?_, ?_⟩
                · exact (((bl_drewN HB3.out _).set 0 _).set 1 _)
                · repeat (first | (with_reducible refine bl_drewN ?_ _) | (with_reducible refine BlockIs.other ?_ ⟨p, _, none⟩ _ hpb))
                  exact HPU.out
                · repeat (first | (with_reducible refine bl_drewN ?_ _) | (with_reducible refine BlockIs.other ?_ ⟨p, _, none⟩ _ hpg))
                  exact HBU.out
                · repeat (first | (with_reducible exact HLU.out) | (with_reducible apply pw_below_drewN) | (with_reducible refine Below.setCell (p := ⟨p, _, none⟩) ?_ hgp _))
              · clear d0 d1 d2 e0 e1 e2 db g0 g1 g2 g3 k0 k1 k2 k3 hgl hpl HB3 HPU HBU HLU
                intro X hX
                have hX' := Lib.hid hX
                clear hX
                obtain ⟨x1, x2, x3, x4⟩ := hX'.out
                have d0 := x1.cell 0
                have d1 := x1.cell 1
                have d2 := x1.cell 2
                have db := x2.cell 0
                have g0 := x3.cell 0
                have g1 := x3.cell 1
                have g2 := x3.cell 2
                have g3 := x3.cell 3
                have k0 := x3.frozen 0
                have k1 := x3.frozen 1
                have k2 := x3.frozen 2
                have k3 := x3.frozen 3
                have hgl := x3.lt
                simp only [workCells, List.getElem?_toArray, List.getElem?_cons_zero, List.getElem?_cons_succ] at d0 d1 d2 db g0 g1 g2 g3
                have KP := Lib.hid (show ∀ w', BlockIs w' p 40 #[.int .i64 h.ch, .int .i64 h.fr, .int .i64 mn] → BlockIs w' b 110 #[.pointer (some ⟨g, 0, none⟩)] → (w'.cell? ⟨b, 0, none⟩ = some (.pointer (some ⟨g, 0, none⟩)) ∧ w'.cell? ⟨p, 0, none⟩ = some (.int .i64 h.ch) ∧ w'.cell? ⟨p, 1, none⟩ = some (.int .i64 h.fr) ∧ w'.cell? ⟨p, 2, none⟩ = some (.int .i64 mn)) from fun w' h1 h2 => ⟨h2.cell 0, h1.cell 0, h1.cell 1, h1.cell 2⟩)
                have X1 := Lib.hid x1
                have X2 := Lib.hid x2
                have X3 := Lib.hid x3
                have X4 := Lib.hid x4
                clear x1 x2 x3 x4 hX'
                go_region_held3 (fun w' => w'.cell? ⟨b, 0, none⟩ = some (.pointer (some ⟨g, 0, none⟩)) ∧ w'.cell? ⟨p, 0, none⟩ = some (.int .i64 h.ch) ∧ w'.cell? ⟨p, 1, none⟩ = some (.int .i64 h.fr) ∧ w'.cell? ⟨p, 2, none⟩ = some (.int .i64 mn)) ((refine KP.out _ ?_ ?_; (repeat (first | (with_reducible refine bl_drew ?_) | (with_reducible refine BlockIs.other ?_ ⟨g, _, none⟩ _ hgp1))); exact X1.out; (repeat (first | (with_reducible refine bl_drew ?_) | (with_reducible refine BlockIs.other ?_ ⟨g, _, none⟩ _ hgb1))); exact X2.out)) (fail)
                go_wp2
                go_ret
                refine ⟨rfl, ?_, fun _ => ⟨.slice none 0 0, ?_, Meths.nil _⟩⟩
                · repeat (first | (with_reducible exact X4.out) | (with_reducible apply below_drew1) | (with_reducible refine below_set ?_ _ _))
                · repeat (with_reducible refine bl_drew ?_)
                  exact (((X3.out.set 1 _).set 2 _).set 3 _).set 0 _
            · have c5b : (a0 == 0) = false := beq_eq_false_iff_ne.2 c5
              rw [if_neg c5] at hRR
              subst hRR
              clear c5
              go_wp2
              repeat (go_quiet (fail); try go_wp2)
              refine wp_world (fun X => BlockIs X p 40 #[.int .i64 a0, .int .i64 h.fr, .int .i64 mn] ∧ BlockIs X b 110 #[.pointer (some ⟨g, 0, none⟩)] ∧ BlockIs X g 113 (workCells h m.f0 m.f1 A m.f2.length cap (.slice none 0 0)) ∧ Below g W X) ?_ ?_
              · refine ⟨?_, ?_, ?_, ?_⟩
                · exact ((bl_drewN HB3.out _).set 1 _)
                · repeat (first | (with_reducible refine bl_drewN ?_ _) | (with_reducible refine BlockIs.other ?_ ⟨p, _, none⟩ _ hpb))
                  exact HPU.out
                · repeat (first | (with_reducible refine bl_drewN ?_ _) | (with_reducible refine BlockIs.other ?_ ⟨p, _, none⟩ _ hpg))
                  exact HBU.out
                · repeat (first | (with_reducible exact HLU.out) | (with_reducible apply pw_below_drewN) | (with_reducible refine Below.setCell (p := ⟨p, _, none⟩) ?_ hgp _))
              · clear d0 d1 d2 e0 e1 e2 db g0 g1 g2 g3 k0 k1 k2 k3 hgl hpl HB3 HPU HBU HLU
                intro X hX
                have hX' := Lib.hid hX
                clear hX
                obtain ⟨x1, x2, x3, x4⟩ := hX'.out
                have d0 := x1.cell 0
                have d1 := x1.cell 1
                have d2 := x1.cell 2
                have db := x2.cell 0
                have g0 := x3.cell 0
                have g1 := x3.cell 1
                have g2 := x3.cell 2
                have g3 := x3.cell 3
                have k0 := x3.frozen 0
                have k1 := x3.frozen 1
                have k2 := x3.frozen 2
                have k3 := x3.frozen 3
                have hgl := x3.lt
                simp only [workCells, List.getElem?_toArray, List.getElem?_cons_zero, List.getElem?_cons_succ] at d0 d1 d2 db g0 g1 g2 g3
                have KP := Lib.hid (show ∀ w', BlockIs w' p 40 #[.int .i64 a0, .int .i64 h.fr, .int .i64 mn] → BlockIs w' b 110 #[.pointer (some ⟨g, 0, none⟩)] → (w'.cell? ⟨b, 0, none⟩ = some (.pointer (some ⟨g, 0, none⟩)) ∧ w'.cell? ⟨p, 0, none⟩ = some (.int .i64 a0) ∧ w'.cell? ⟨p, 1, none⟩ = some (.int .i64 h.fr) ∧ w'.cell? ⟨p, 2, none⟩ = some (.int .i64 mn)) from fun w' h1 h2 => ⟨h2.cell 0, h1.cell 0, h1.cell 1, h1.cell 2⟩)
                have X1 := Lib.hid x1
                have X2 := Lib.hid x2
                have X3 := Lib.hid x3
                have X4 := Lib.hid x4
                clear x1 x2 x3 x4 hX'
                go_region_held3 (fun w' => w'.cell? ⟨b, 0, none⟩ = some (.pointer (some ⟨g, 0, none⟩)) ∧ w'.cell? ⟨p, 0, none⟩ = some (.int .i64 a0) ∧ w'.cell? ⟨p, 1, none⟩ = some (.int .i64 h.fr) ∧ w'.cell? ⟨p, 2, none⟩ = some (.int .i64 mn)) ((refine KP.out _ ?_ ?_; (repeat (first | (with_reducible refine bl_drew ?_) | (with_reducible refine BlockIs.other ?_ ⟨g, _, none⟩ _ hgp1))); exact X1.out; (repeat (first | (with_reducible refine bl_drew ?_) | (with_reducible refine BlockIs.other ?_ ⟨g, _, none⟩ _ hgb1))); exact X2.out)) (fail)
                go_wp2
                go_ret
                refine ⟨rfl, ?_, fun _ => ⟨.slice none 0 0, ?_, Meths.nil _⟩⟩
                · repeat (first | (with_reducible exact X4.out) | (with_reducible apply below_drew1) | (with_reducible refine below_set ?_ _ _))
                · repeat (with_reducible refine bl_drew ?_)
                  exact (((X3.out.set 1 _).set 2 _).set 3 _).set 0 _
          · have c3b : (a1 != 0) = true := bne_iff_ne.2 c3
            have c3d : (a1 == 0) = false := beq_eq_false_iff_ne.2 c3
            by_cases c4 : a1 < 4096
            · have c4b : decide (a1 < 4096) = true := decide_eq_true c4
              rw [if_pos (.inr (.inr ⟨c3, c4⟩))] at hRR
              subst hRR
              clear c1 c2 c3 c4
              go_wp2
              repeat (go_quiet (fail); try go_wp2)
              go_ret
              exact ⟨rfl, by repeat (first | (with_reducible exact HLU.out) | with_reducible apply pw_below_drewN), fun e => by cases e⟩
            · have c4b : decide (a1 < 4096) = false := decide_eq_false c4
              rw [if_neg (by omega), if_neg c3] at hRR
              clear c1 c2 c3 c4
              by_cases c5 : a0 = 0
              · subst c5
                rw [if_pos rfl] at hRR
                subst hRR
                go_wp2
                repeat (go_quiet (fail); try go_wp2)
                refine wp_world (fun X => BlockIs X p 40 #[.int .i64 h.ch, .int .i64 a1, .int .i64 mn] ∧ BlockIs X b 110 #[.pointer (some ⟨g, 0, none⟩)] ∧ BlockIs X g 113 (workCells h m.f0 m.f1 A m.f2.length cap (.slice none 0 0)) ∧ Below g W X) ?_ ?_
                · refine ⟨?_, ?_, ?_, ?_⟩
                  · exact ((bl_drewN HB3.out _).set 0 _)
                  · repeat (first | (with_reducible refine bl_drewN ?_ _) | (with_reducible refine BlockIs.other ?_ ⟨p, _, none⟩ _ hpb))
                    exact HPU.out
                  · repeat (first | (with_reducible refine bl_drewN ?_ _) | (with_reducible refine BlockIs.other ?_ ⟨p, _, none⟩ _ hpg))
                    exact HBU.out
                  · repeat (first | (with_reducible exact HLU.out) | (with_reducible apply pw_below_drewN) | (with_reducible refine Below.setCell (p := ⟨p, _, none⟩) ?_ hgp _))
                · clear d0 d1 d2 e0 e1 e2 db g0 g1 g2 g3 k0 k1 k2 k3 hgl hpl HB3 HPU HBU HLU
                  intro X hX
                  have hX' := Lib.hid hX
                  clear hX
                  obtain ⟨x1, x2, x3, x4⟩ := hX'.out
                  have d0 := x1.cell 0
                  have d1 := x1.cell 1
                  have d2 := x1.cell 2
                  have db := x2.cell 0
                  have g0 := x3.cell 0
                  have g1 := x3.cell 1
                  have g2 := x3.cell 2
                  have g3 := x3.cell 3
                  have k0 := x3.frozen 0
                  have k1 := x3.frozen 1
                  have k2 := x3.frozen 2
                  have k3 := x3.frozen 3
                  have hgl := x3.lt
                  simp only [workCells, List.getElem?_toArray, List.getElem?_cons_zero, List.getElem?_cons_succ] at d0 d1 d2 db g0 g1 g2 g3
                  have KP := Lib.hid (show ∀ w', BlockIs w' p 40 #[.int .i64 h.ch, .int .i64 a1, .int .i64 mn] → BlockIs w' b 110 #[.pointer (some ⟨g, 0, none⟩)] → (w'.cell? ⟨b, 0, none⟩ = some (.pointer (some ⟨g, 0, none⟩)) ∧ w'.cell? ⟨p, 0, none⟩ = some (.int .i64 h.ch) ∧ w'.cell? ⟨p, 1, none⟩ = some (.int .i64 a1) ∧ w'.cell? ⟨p, 2, none⟩ = some (.int .i64 mn)) from fun w' h1 h2 => ⟨h2.cell 0, h1.cell 0, h1.cell 1, h1.cell 2⟩)
                  have X1 := Lib.hid x1
                  have X2 := Lib.hid x2
                  have X3 := Lib.hid x3
                  have X4 := Lib.hid x4
                  clear x1 x2 x3 x4 hX'
                  go_region_held3 (fun w' => w'.cell? ⟨b, 0, none⟩ = some (.pointer (some ⟨g, 0, none⟩)) ∧ w'.cell? ⟨p, 0, none⟩ = some (.int .i64 h.ch) ∧ w'.cell? ⟨p, 1, none⟩ = some (.int .i64 a1) ∧ w'.cell? ⟨p, 2, none⟩ = some (.int .i64 mn)) ((refine KP.out _ ?_ ?_; (repeat (first | (with_reducible refine bl_drew ?_) | (with_reducible refine BlockIs.other ?_ ⟨g, _, none⟩ _ hgp1))); exact X1.out; (repeat (first | (with_reducible refine bl_drew ?_) | (with_reducible refine BlockIs.other ?_ ⟨g, _, none⟩ _ hgb1))); exact X2.out)) (fail)
                  go_wp2
                  go_ret
                  refine ⟨rfl, ?_, fun _ => ⟨.slice none 0 0, ?_, Meths.nil _⟩⟩
                  · repeat (first | (with_reducible exact X4.out) | (with_reducible apply below_drew1) | (with_reducible refine below_set ?_ _ _))
                  · repeat (with_reducible refine bl_drew ?_)
                    exact (((X3.out.set 1 _).set 2 _).set 3 _).set 0 _
              · have c5b : (a0 == 0) = false := beq_eq_false_iff_ne.2 c5
                rw [if_neg c5] at hRR
                subst hRR
                clear c5
                go_wp2
                repeat (go_quiet (fail); try go_wp2)
                refine wp_world (fun X => BlockIs X p 40 #[.int .i64 a0, .int .i64 a1, .int .i64 mn] ∧ BlockIs X b 110 #[.pointer (some ⟨g, 0, none⟩)] ∧ BlockIs X g 113 (workCells h m.f0 m.f1 A m.f2.length cap (.slice none 0 0)) ∧ Below g W X) ?_ ?_
                · refine ⟨?_, ?_, ?_, ?_⟩
                  · exact HB3.out
                  · repeat (first | (with_reducible refine bl_drewN ?_ _) | (with_reducible refine BlockIs.other ?_ ⟨p, _, none⟩ _ hpb))
                    exact HPU.out
                  · repeat (first | (with_reducible refine bl_drewN ?_ _) | (with_reducible refine BlockIs.other ?_ ⟨p, _, none⟩ _ hpg))
                    exact HBU.out
                  · repeat (first | (with_reducible exact HLU.out) | (with_reducible apply pw_below_drewN) | (with_reducible refine Below.setCell (p := ⟨p, _, none⟩) ?_ hgp _))
                · clear d0 d1 d2 e0 e1 e2 db g0 g1 g2 g3 k0 k1 k2 k3 hgl hpl HB3 HPU HBU HLU
                  intro X hX
                  have hX' := Lib.hid hX
                  clear hX
                  obtain ⟨x1, x2, x3, x4⟩ := hX'.out
                  have d0 := x1.cell 0
                  have d1 := x1.cell 1
                  have d2 := x1.cell 2
                  have db := x2.cell 0
                  have g0 := x3.cell 0
                  have g1 := x3.cell 1
                  have g2 := x3.cell 2
                  have g3 := x3.cell 3
                  have k0 := x3.frozen 0
                  have k1 := x3.frozen 1
                  have k2 := x3.frozen 2
                  have k3 := x3.frozen 3
                  have hgl := x3.lt
                  simp only [workCells, List.getElem?_toArray, List.getElem?_cons_zero, List.getElem?_cons_succ] at d0 d1 d2 db g0 g1 g2 g3
                  have KP := Lib.hid (show ∀ w', BlockIs w' p 40 #[.int .i64 a0, .int .i64 a1, .int .i64 mn] → BlockIs w' b 110 #[.pointer (some ⟨g, 0, none⟩)] → (w'.cell? ⟨b, 0, none⟩ = some (.pointer (some ⟨g, 0, none⟩)) ∧ w'.cell? ⟨p, 0, none⟩ = some (.int .i64 a0) ∧ w'.cell? ⟨p, 1, none⟩ = some (.int .i64 a1) ∧ w'.cell? ⟨p, 2, none⟩ = some (.int .i64 mn)) from fun w' h1 h2 => ⟨h2.cell 0, h1.cell 0, h1.cell 1, h1.cell 2⟩)
                  have X1 := Lib.hid x1
                  have X2 := Lib.hid x2
                  have X3 := Lib.hid x3
                  have X4 := Lib.hid x4
                  clear x1 x2 x3 x4 hX'
                  go_region_held3 (fun w' => w'.cell? ⟨b, 0, none⟩ = some (.pointer (some ⟨g, 0, none⟩)) ∧ w'.cell? ⟨p, 0, none⟩ = some (.int .i64 a0) ∧ w'.cell? ⟨p, 1, none⟩ = some (.int .i64 a1) ∧ w'.cell? ⟨p, 2, none⟩ = some (.int .i64 mn)) ((refine KP.out _ ?_ ?_; (repeat (first | (with_reducible refine bl_drew ?_) | (with_reducible refine BlockIs.other ?_ ⟨g, _, none⟩ _ hgp1))); exact X1.out; (repeat (first | (with_reducible refine bl_drew ?_) | (with_reducible refine BlockIs.other ?_ ⟨g, _, none⟩ _ hgb1))); exact X2.out)) (fail)
                  go_wp2
                  go_ret
                  refine ⟨rfl, ?_, fun _ => ⟨.slice none 0 0, ?_, Meths.nil _⟩⟩
                  · repeat (first | (with_reducible exact X4.out) | (with_reducible apply below_drew1) | (with_reducible refine below_set ?_ _ _))
                  · repeat (with_reducible refine bl_drew ?_)
                    exact (((X3.out.set 1 _).set 2 _).set 3 _).set 0 _
  · rw [if_neg c]
    have ci : isM m 31 = false := by simpa using c
    clear c
    go_enter Tryd.func62, Tryd.ntmps62
    go_wp2_with (first | (go_at_call 97; refine (H97.out _).mono ?_; rintro e w' ⟨rfl, rfl⟩) | (go_at_call 64; refine H64.out.mono ?_; rintro e w2 ⟨rfl, hb2, hk⟩; have HK := Lib.hid hk; clear hk))
    go_ret
    exact ⟨rfl, ((Below.refl g W).alloc (by omega) _).trans hb2, HK.out⟩
end Go.Proofs.YtdogcnadopepmaaDoor.M
