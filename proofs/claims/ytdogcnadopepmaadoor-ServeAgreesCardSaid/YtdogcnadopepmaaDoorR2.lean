/- How what ServeAgrees is asked of reads. -/
import Derived.Test.YtdogcnadopepmaaDoorG8
namespace Go.Proofs.YtdogcnadopepmaaDoor.R
open Go.RowKit Go.ChangeShapes Go.WideShapes Go.ChangeAt Go.Proofs.YtdogcnadopepmaaDoorW.PrintWords Go.Proofs.YtdogcnadopepmaaDoor.H
set_option linter.unusedSimpArgs false
set_option linter.unusedVariables false
set_option linter.constructorNameAsVariable false
set_option maxRecDepth 100000
section
variable {H : Type} {enc : TypeId × Value → H} {W : World} {spare : Nat → Bool} {held : Bool}
theorem c53 : Tryd.prog.cellsOf 53 = 10 := by kernel_rfl
theorem list4 {α : Type} {cs : List α} (h : cs.length = 4) : ∃ c0 c1 c2 c3, cs = [c0, c1, c2, c3] := by
  match cs, h with
  | [c0, c1, c2, c3], _ => exact ⟨c0, c1, c2, c3, rfl⟩
theorem list10 {α : Type} {cs : List α} (h : cs.length = 10) : ∃ c0 c1 c2 c3 c4 c5 c6 c7 c8 c9, cs = [c0, c1, c2, c3, c4, c5, c6, c7, c8, c9] := by
  match cs, h with
  | [c0, c1, c2, c3, c4, c5, c6, c7, c8, c9], _ => exact ⟨c0, c1, c2, c3, c4, c5, c6, c7, c8, c9, rfl⟩
theorem open53 (m : Nat) (cs : List Value) (x : DataW H × List MemPlace) (h : DataW.trod enc Tryd.prog W 0 spare held m 53 cs = some x) :
    ∃ st ch fr be us wo ho c f b, cs = [.int .i64 st, .int .i64 ch, .int .i64 fr, .int .i64 be, .string us, .string wo, .string ho, .int .i64 c, .int .i64 f, .int .i64 b] ∧ Ok43 st ch fr be us wo ho ∧ (Lit.int .i64 c).wf = true ∧ (Lit.int .i64 f).wf = true ∧ (Lit.int .i64 b).wf = true := by
  obtain ⟨xs, n, _, _, hl, hlen, hf⟩ := DataW.trod_struct Tryd.underlying53 h
  rw [c53] at hl
  obtain ⟨k0, k1, k2, k3, k4, k5, k6, k7, k8, k9, rfl⟩ := list10 hl
  obtain ⟨x0, x1, x2, x3, rfl⟩ := list4 hlen
  obtain ⟨st, ch, fr, be, us, wo, ho, e0, hok⟩ := open43 _ _ _ (hf 0 _ rfl)
  obtain ⟨c, e1, _, hw1⟩ := DataW.trod_int Tryd.underlying3 (hf 1 _ rfl)
  obtain ⟨f, e2, _, hw2⟩ := DataW.trod_int Tryd.underlying3 (hf 2 _ rfl)
  obtain ⟨b, e3, _, hw3⟩ := DataW.trod_int Tryd.underlying3 (hf 3 _ rfl)
  simp [c3, c43] at e0 e1 e2 e3
  obtain ⟨rfl, rfl, rfl, rfl, rfl, rfl, rfl⟩ := e0
  subst e1
  subst e2
  subst e3
  exact ⟨st, ch, fr, be, us, wo, ho, c, f, b, rfl, hok, hw1, hw2, hw3⟩
theorem arg53 {r : Reach} {b0 : Nat} {v : Value} {d : DataW H} {p : List MemPlace} (hv : Value.okWide Tryd.prog W r b0 53 v) (h : DataW.Trod enc Tryd.prog W 0 spare held 53 v d p) :
    ∃ st ch fr be us wo ho c f b, v = .agg #[.int .i64 st, .int .i64 ch, .int .i64 fr, .int .i64 be, .string us, .string wo, .string ho, .int .i64 c, .int .i64 f, .int .i64 b] ∧ Ok43 st ch fr be us wo ho ∧ (Lit.int .i64 c).wf = true ∧ (Lit.int .i64 f).wf = true ∧ (Lit.int .i64 b).wf = true := by
  obtain ⟨cs, rfl, hsz⟩ := okWide_struct Tryd.underlying53 hv
  obtain ⟨fuel, hf⟩ := h
  obtain ⟨st, ch, fr, be, us, wo, ho, c, f, b, e, hw⟩ := open53 _ _ _ hf
  refine ⟨st, ch, fr, be, us, wo, ho, c, f, b, ?_, hw⟩
  have e' : cs.toList = [.int .i64 st, .int .i64 ch, .int .i64 fr, .int .i64 be, .string us, .string wo, .string ho, .int .i64 c, .int .i64 f, .int .i64 b] := e
  obtain ⟨cs⟩ := cs
  simp only at e'
  rw [e']
end
end Go.Proofs.YtdogcnadopepmaaDoor.R
