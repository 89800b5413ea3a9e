/- Plain: ServeWrong. -/
import Derived.Test.YtdogcnadopepmaaDoorG7
import Derived.Test.YtdogcnadopepmaaDoorHf6
namespace Go.Proofs.YtdogcnadopepmaaDoor.L
open Go.RowKit Go.Proofs.YtdogcnadopepmaaDoorW.PrintWords Go.Proofs.YtdogcnadopepmaaDoorW.PrintLast Go.Proofs.YtdogcnadopepmaaDoorW.PrintMore Go.Proofs.YtdogcnadopepmaaDoor.H Go.Proofs.YtdogcnadopepmaaDoor.M Go.Proofs.YtdogcnadopepmaaDoor.R
set_option linter.unusedSimpArgs false
set_option linter.unusedVariables false

theorem isM_true {m : S24} {i : Int} (h : isM m i = true) : m.f0 = 10 ∧ m.f1 = i := by
  simpa [isM] using h
theorem isM_false {m : S24} {i : Int} (h : ¬ (m.f0 = 10 ∧ m.f1 = i)) : isM m i = false := by
  cases hb : isM m i with
  | false => rfl
  | true => exact absurd (isM_true hb) h

theorem step_wrong (h : Hd) (m : S24) (h1 : 1 ≤ h.st) (h4 : h.st ≤ 4) :
    (m.f0 ≠ 10 → takeR 0 h m = ⟨8, h, []⟩) ∧ (m.f0 = 10 → m.f1 = 50 → takeR 0 h m = ⟨0, { h with st := 6 }, [⟨10, 51, []⟩]⟩) ∧
    (m.f0 = 10 → m.f1 ≠ 50 → h.st = 4 → takeR 0 h m = ⟨8, h, []⟩) ∧
    (m.f0 = 10 → m.f1 ≠ 50 → h.st ≠ 4 → ((takeR 0 h m).e = 0 ∧ (takeR 0 h m).h.st = h.st + 1) ∨ ((takeR 0 h m).e ≠ 0 ∧ (takeR 0 h m).h = h)) := by
  have hn : ¬ (h.st < 0 ∨ 7 ≤ h.st) := by omega
  have ends : ∀ i, isM m i = false → True := fun _ _ => trivial
  refine ⟨fun hc => ?_, fun hc hi => ?_, fun hc hi hs => ?_, fun hc hi hs => ?_⟩
  · have hf : ∀ i, isM m i = false := fun i => isM_false (fun q => hc q.1)
    have hd : doStep h m = ⟨8, h, []⟩ := by
      unfold doStep doStart doTune doOpen doEnds
      simp only [hf, Bool.false_eq_true, if_false]
      rw [if_neg (by omega)]
      repeat' split
      all_goals first | rfl | omega
    simp [takeR, hn, hd]
  · have h50 : isM m 50 = true := by simp [isM, hc, hi]
    have h11 : isM m 11 = false := isM_false (fun q => by have := q.2; omega)
    have h31 : isM m 31 = false := isM_false (fun q => by have := q.2; omega)
    have h40 : isM m 40 = false := isM_false (fun q => by have := q.2; omega)
    have hd : doStep h m = ⟨0, { h with st := 6 }, [⟨10, 51, []⟩]⟩ := by
      unfold doStep doStart doTune doOpen doEnds
      simp only [h50, h11, h31, h40, Bool.false_eq_true, if_false, if_true]
      rw [if_neg (by omega)]
      repeat' split
      all_goals first | rfl | omega
    simp [takeR, hn, hd]
  · have h50 : isM m 50 = false := isM_false (fun q => hi q.2)
    have hd : doStep h m = ⟨8, h, []⟩ := by
      unfold doStep doEnds
      simp only [h50, Bool.false_eq_true, if_false]
      rw [if_neg (by omega), if_neg (by omega), if_neg (by omega), if_neg (by omega), if_pos hs]
    simp [takeR, hn, hd]
  · have key : ((doStep h m).e = 0 → (doStep h m).h.st = h.st + 1) := by
      have h50 : isM m 50 = false := isM_false (fun q => hi q.2)
      unfold doStep doStart doTune doOpen doEnds
      simp only [h50, Bool.false_eq_true, if_false]
      rw [if_neg (by omega)]
      split
      · repeat' split
        all_goals (intro e; dsimp only at e ⊢; omega)
      · split
        · repeat' split
          all_goals (intro e; dsimp only at e ⊢; omega)
        · split
          · repeat' split
            all_goals (intro e; dsimp only at e ⊢; omega)
          · omega
    unfold takeR
    rw [if_pos rfl, if_neg hn]
    by_cases he : (doStep h m).e = 0
    · rw [if_pos he]
      exact .inl ⟨rfl, key he⟩
    · rw [if_neg he]
      exact .inr ⟨he, rfl⟩

theorem ServeWrong_pure (h : Hd) (m : S24) (hv : ∀ v ∈ m.f2, Ok56 v) (hs : (Lit.int .i64 h.st).wf = true) :
    ∃ k, interchangelaw10_ServeWrong.f k h.st h.ch h.fr h.be h.us h.wo h.ho m.f0 m.f1 m.f2 = some true := by
  obtain ⟨e, _, hT⟩ := serve_take h m hv
  refine Ev.rounds (r := true) ?_
  unfold interchangelaw10_ServeWrong.f
  refine Ev.bind (a := true) (Ev.now _) ?_
  refine Ev.bind hT ?_
  have hj : ∀ (b : Bool) {g : Nat → Option Bool}, (∀ k, interchangelaw10_ServeWrong.j0 (k + 1) true (takeR e h m).out (takeR e h m).e b h.st h.ch h.fr h.be h.us h.wo h.ho m.f0 m.f1 m.f2 (takeR e h m).h.st (takeR e h m).h.ch (takeR e h m).h.fr (takeR e h m).h.be (takeR e h m).h.us (takeR e h m).h.wo (takeR e h m).h.ho = g k) → Ev g true →
      Ev (fun k => interchangelaw10_ServeWrong.j0 k true (takeR e h m).out (takeR e h m).e b h.st h.ch h.fr h.be h.us h.wo h.ho m.f0 m.f1 m.f2 (takeR e h m).h.st (takeR e h m).h.ch (takeR e h m).h.fr (takeR e h m).h.be (takeR e h m).h.us (takeR e h m).h.wo (takeR e h m).h.ho) true := fun b g hk hg => Ev.step hk hg
  have hjt := hj true (g := fun _ => some true) (fun k => by rw [interchangelaw10_ServeWrong.j0]; simp) (Ev.now _)
  by_cases c1 : h.st < 1
  · simp only [if_pos c1]
    exact hjt
  · by_cases c2 : h.st > 4
    · simp only [if_neg c1, if_pos c2]
      exact hjt
    · simp only [if_neg c1, if_neg c2]
      by_cases ce : e = 0
      · subst ce
        obtain ⟨w1, w2, w3, w4⟩ := step_wrong h m (by omega) (by omega)
        refine hj _ (g := fun _ => some true) (fun k => ?_) (Ev.now _)
        rw [interchangelaw10_ServeWrong.j0]
        by_cases hc : m.f0 = 10
        · by_cases hi : m.f1 = 50
          · rw [w2 hc hi]
            simp [tup, hc, hi, rd_T24]
          · by_cases hs4 : h.st = 4
            · rw [w3 hc hi hs4]
              simp [tup, hc, hi, hs4]
            · have hw : wrap64 (h.st + 1) = h.st + 1 := by
                unfold wrap64
                omega
              rcases w4 hc hi hs4 with ⟨q1, q2⟩ | ⟨q1, q2⟩
              · simp [tup, hc, hi, hs4, q1, q2, hw]
              · by_cases q7 : (takeR 0 h m).e = 7
                · simp [tup, q7]
                · have q7' : ((takeR 0 h m).e == 7) = false := beq_eq_false_iff_ne.2 q7
                  simp [tup, hc, hi, hs4, q1, q2, q7']
        · rw [w1 hc]
          simp [tup, hc]
      · have hR : takeR e h m = ⟨7, h, []⟩ := by simp [takeR, ce]
        rw [show ((tup (takeR e h m)).2.2.2.2.2.2.2.2 == 7) = true by rw [hR]; rfl]
        exact hjt
end Go.Proofs.YtdogcnadopepmaaDoor.L
