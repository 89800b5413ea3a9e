/- Plain: what a connection says is right, by the document. -/
import Derived.Test.YtdogcnadopepmaaDoorG7
import Derived.Test.YtdogcnadopepmaaDoorHf27
namespace Go.Proofs.YtdogcnadopepmaaDoor.L
open Go.RowKit Go.Proofs.YtdogcnadopepmaaDoorW.PrintWords Go.Proofs.YtdogcnadopepmaaDoorW.PrintLast Go.Proofs.YtdogcnadopepmaaDoorW.PrintMore Go.Proofs.YtdogcnadopepmaaDoor.H Go.Proofs.YtdogcnadopepmaaDoor.M Go.Proofs.YtdogcnadopepmaaDoor.R
set_option linter.unusedSimpArgs false
set_option linter.unusedVariables false

theorem num_one (a : Int) : (strOfNums [a]).size = 1 := rfl
theorem put_l (x0 : Int) (h8 : x0 ≤ 8) (d : Nat) : ∀ (i x : Int) (s : ByteArray), 0 ≤ i → i + d = x0 → 0 ≤ x → x < 256 ^ d → x < 18446744073709551616 → s.size ≤ 100 - d → ∃ r, Ev (fun k => interchangeref01_Put.l0 k x0 x s i) (r, 0) := by
  induction d with
  | zero =>
    intro i x s hi hx h0 h1 h2 hs
    refine ⟨s, Ev.step (f := fun _ => some (s, 0)) (fun k => ?_) (Ev.now _)⟩
    simp only [interchangeref01_Put.l0]
    rw [if_neg (by omega), if_neg (by omega)]
  | succ d ih =>
    intro i x s hi hx h0 h1 h2 hs
    have ht : IntKind.u64.wrap (Int.tdiv x 256) = x / 256 := by
      rw [Int.tdiv_eq_ediv_of_nonneg h0, IntKind.wrap_u64]
      omega
    have hd : x / 256 < 256 ^ d := by
      rw [Int.pow_succ] at h1
      exact Int.ediv_lt_of_lt_mul (by decide) h1
    obtain ⟨r, hr⟩ := ih (i + 1) (x / 256) (strOfNums [(Int.tmod x 256) % 256] ++ s) (by omega) (by omega) (by omega) hd (by omega) (by rw [ByteArray.size_append, num_one]; omega)
    refine ⟨r, Ev.step (f := fun k => interchangeref01_Put.l0 k x0 (x / 256) (strOfNums [(Int.tmod x 256) % 256] ++ s) (i + 1)) (fun k => ?_) hr⟩
    simp only [interchangeref01_Put.l0]
    rw [if_pos (by omega), Option.bind_some, if_pos (by rw [num_one]; omega), ht, wrap_small (by omega) (by omega)]
theorem put_2 (x : Int) (h0 : 0 ≤ x) (h1 : x ≤ 65535) : ∃ r, Ev (fun k => interchangeref01_Put.f k 2 x) (r, 0) := by
  obtain ⟨r, hr⟩ := put_l 2 (by decide) 2 0 x ⟨#[]⟩ (by decide) (by decide) h0 (by omega) (by omega) (by decide)
  refine ⟨r, ?_⟩
  unfold interchangeref01_Put.f
  simp only [if_neg (show ¬ (2 : Int) = 1 by decide), if_true]
  exact Ev.step (fun k => by rw [interchangeref01_Put.j0, if_neg (by decide)]) hr
theorem put_4 (x : Int) (h0 : 0 ≤ x) (h1 : x ≤ 4294967295) : ∃ r, Ev (fun k => interchangeref01_Put.f k 4 x) (r, 0) := by
  obtain ⟨r, hr⟩ := put_l 4 (by decide) 4 0 x ⟨#[]⟩ (by decide) (by decide) h0 (by omega) (by omega) (by decide)
  refine ⟨r, ?_⟩
  unfold interchangeref01_Put.f
  simp only [if_neg (show ¬ (4 : Int) = 1 by decide), if_neg (show ¬ (4 : Int) = 2 by decide), if_true]
  exact Ev.step (fun k => by rw [interchangeref01_Put.j0, if_neg (by decide)]) hr

theorem val_j (c n x : Int) (hn : n > 0) (hc : c = 115 ∨ c = 108) : Ev (fun k => interchangeref06_val.j0 k c n x ⟨#[]⟩) 0 := by
  have h2 : Ev (fun k => interchangeref06_val.j2 k c true x ⟨#[]⟩) 0 := Ev.step (f := fun _ => some 0) (fun k => by rw [interchangeref06_val.j2]; simp [ByteArray.size]) (Ev.now _)
  have h1 : Ev (fun k => interchangeref06_val.j1 k c n false x ⟨#[]⟩) 0 := Ev.step (fun k => by rw [interchangeref06_val.j1, if_neg (by decide), if_pos hn]) h2
  refine Ev.step (fun k => ?_) h1
  rw [interchangeref06_val.j0]
  rw [if_neg (by omega), if_neg (by omega), if_neg (by omega)]
theorem val_s (x : Int) (h0 : 0 ≤ x) (h1 : x ≤ 65535) : Ev (fun k => interchangeref06_val.f k 115 x ⟨#[]⟩) 0 := by
  obtain ⟨r, hr⟩ := put_2 x h0 h1
  have hw : interchangeref06_width.f 115 = some 2 := rfl
  unfold interchangeref06_val.f
  rw [hw]
  simp only [Option.bind_some, if_pos (show (2 : Int) > 0 by decide)]
  refine Ev.bind hr ?_
  simp only [if_true]
  exact val_j 115 2 x (by decide) (.inl rfl)
theorem val_l (x : Int) (h0 : 0 ≤ x) (h1 : x ≤ 4294967295) : Ev (fun k => interchangeref06_val.f k 108 x ⟨#[]⟩) 0 := by
  obtain ⟨r, hr⟩ := put_4 x h0 h1
  have hw : interchangeref06_width.f 108 = some 4 := rfl
  unfold interchangeref06_val.f
  rw [hw]
  simp only [Option.bind_some, if_pos (show (4 : Int) > 0 by decide)]
  refine Ev.bind hr ?_
  simp only [if_true]
  exact val_j 108 4 x (by decide) (.inr rfl)

theorem of_30 : interchangeref05_Of.f 700 10 30 = some (⟨#[115, 108, 115]⟩, true) := by decide +kernel
theorem right_30 (a b c : Int) (ha : 0 ≤ a ∧ a ≤ 65535) (hb : 0 ≤ b ∧ b ≤ 4294967295) (hc : 0 ≤ c ∧ c ≤ 65535) : Ev (fun k => interchangeref06_Right.f k 10 30 [⟨a, ⟨#[]⟩⟩, ⟨b, ⟨#[]⟩⟩, ⟨c, ⟨#[]⟩⟩]) 0 := by
  unfold interchangeref06_Right.f
  refine Ev.bind (Ev.of (interchangeref05_Of.mono 10 30) of_30) ?_
  simp only [if_true]
  refine Ev.step (f := fun k => interchangeref06_Right.l0 k ⟨#[115, 108, 115]⟩ 0 10 30 [⟨a, ⟨#[]⟩⟩, ⟨b, ⟨#[]⟩⟩, ⟨c, ⟨#[]⟩⟩]) (fun k => by rw [interchangeref06_Right.j0, if_neg (by simp [ByteArray.size])]) ?_
  have h3 : Ev (fun k => interchangeref06_Right.l0 k ⟨#[115, 108, 115]⟩ 3 10 30 [⟨a, ⟨#[]⟩⟩, ⟨b, ⟨#[]⟩⟩, ⟨c, ⟨#[]⟩⟩]) 0 := Ev.step (f := fun _ => some 0) (fun k => by rw [interchangeref06_Right.l0, if_neg (by decide)]) (Ev.now _)
  have h2 : Ev (fun k => interchangeref06_Right.l0 k ⟨#[115, 108, 115]⟩ 2 10 30 [⟨a, ⟨#[]⟩⟩, ⟨b, ⟨#[]⟩⟩, ⟨c, ⟨#[]⟩⟩]) 0 := by
    refine Ev.step (f := fun k => (interchangeref06_val.f k 115 c ⟨#[]⟩).bind fun t => if t = 0 then interchangeref06_Right.l0 k ⟨#[115, 108, 115]⟩ 3 10 30 [⟨a, ⟨#[]⟩⟩, ⟨b, ⟨#[]⟩⟩, ⟨c, ⟨#[]⟩⟩] else some t) (fun k => ?_) (Ev.bind (val_s c hc.1 hc.2) (by simp only [if_true]; exact h3))
    rw [interchangeref06_Right.l0, if_pos (by decide), if_pos (by decide), if_pos (by simp), wrap_small (by decide) (by decide)]
    rfl
  have h1 : Ev (fun k => interchangeref06_Right.l0 k ⟨#[115, 108, 115]⟩ 1 10 30 [⟨a, ⟨#[]⟩⟩, ⟨b, ⟨#[]⟩⟩, ⟨c, ⟨#[]⟩⟩]) 0 := by
    refine Ev.step (f := fun k => (interchangeref06_val.f k 108 b ⟨#[]⟩).bind fun t => if t = 0 then interchangeref06_Right.l0 k ⟨#[115, 108, 115]⟩ 2 10 30 [⟨a, ⟨#[]⟩⟩, ⟨b, ⟨#[]⟩⟩, ⟨c, ⟨#[]⟩⟩] else some t) (fun k => ?_) (Ev.bind (val_l b hb.1 hb.2) (by simp only [if_true]; exact h2))
    rw [interchangeref06_Right.l0, if_pos (by decide), if_pos (by decide), if_pos (by simp), wrap_small (by decide) (by decide)]
    rfl
  refine Ev.step (f := fun k => (interchangeref06_val.f k 115 a ⟨#[]⟩).bind fun t => if t = 0 then interchangeref06_Right.l0 k ⟨#[115, 108, 115]⟩ 1 10 30 [⟨a, ⟨#[]⟩⟩, ⟨b, ⟨#[]⟩⟩, ⟨c, ⟨#[]⟩⟩] else some t) (fun k => ?_) (Ev.bind (val_s a ha.1 ha.2) (by simp only [if_true]; exact h1))
  rw [interchangeref06_Right.l0, if_pos (by decide), if_pos (by decide), if_pos (by simp), wrap_small (by decide) (by decide)]
  rfl

/-- A row of one right method is right. -/
theorem rights_one (m : S24) (h : Ev (fun k => interchangeref06_Right.f k m.f0 m.f1 m.f2) 0) : Ev (fun k => interchangeref10_Rights.f k [m]) true := by
  unfold interchangeref10_Rights.f
  have h1 : Ev (fun k => interchangeref10_Rights.l0 k [m] 1) true := Ev.step (f := fun _ => some true) (fun k => by rw [interchangeref10_Rights.l0, if_neg (by simp)]) (Ev.now _)
  refine Ev.step (f := fun k => (interchangeref06_Right.f k m.f0 m.f1 m.f2).bind fun t => if t = 0 then interchangeref10_Rights.l0 k [m] 1 else some false) (fun k => ?_) (Ev.bind h (by simp only [if_true]; exact h1))
  rw [interchangeref10_Rights.l0, if_pos (by simp), if_pos (by decide), wrap_small (by decide) (by decide)]
  rfl
theorem rights_none : Ev (fun k => interchangeref10_Rights.f k []) true := Ev.of (interchangeref10_Rights.mono []) (k := 1) (by decide +kernel)
theorem rights_51 : Ev (fun k => interchangeref10_Rights.f k [⟨10, 51, []⟩]) true := Ev.of (interchangeref10_Rights.mono _) (k := 700) (by decide +kernel)
theorem rights_41 : Ev (fun k => interchangeref10_Rights.f k [⟨10, 41, [⟨0, ⟨#[]⟩⟩]⟩]) true := Ev.of (interchangeref10_Rights.mono _) (k := 700) (by decide +kernel)
end Go.Proofs.YtdogcnadopepmaaDoor.L
