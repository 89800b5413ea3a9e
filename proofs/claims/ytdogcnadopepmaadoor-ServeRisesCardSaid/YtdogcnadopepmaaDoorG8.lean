/- Texts of this seat's, one behind the other (merge.py). -/
import Derived.Test.YtdogcnadopepmaaDoorH0
import Derived.Deep.Slices
import Derived.Deep.Strs
import Derived.ProofKit
import Derived.OpenShut
import Derived.ChangeOld
import Derived.Below
import Derived.SizedLaws
import Derived.Test.YtdogcnadopepmaaDoorRows
import Derived.Test.YtdogcnadopepmaaDoorG2
import Derived.Lib.LaidTab
import Derived.MakeChecks
/- How the statements' arguments read: values of methods, methods, rows of methods, connections. -/
section
namespace Go.Proofs.YtdogcnadopepmaaDoor.R
open Go.RowKit Go.ChangeShapes Go.WideShapes Go.ChangeAt Go.Proofs.YtdogcnadopepmaaDoorW.PrintWords Go.Proofs.YtdogcnadopepmaaDoor.H
set_option linter.unusedSimpArgs false
set_option linter.unusedVariables false
set_option linter.constructorNameAsVariable false
set_option maxRecDepth 100000

section
variable {H : Type} {enc : TypeId × Value → H} {W : World} {spare : Nat → Bool} {held : Bool}

/-- A row of elements of whatever kind. -/
theorem open_kd {α : Type} [Inhabited α] (d : Kd α) (Pr : α → Prop) {P : Program} {t e : TypeId} {n : Nat} {cs : List Value} {x : DataW H × List MemPlace} (ht : P.underlying t = some (.slice e)) (hc : P.cellsOf e = d.sz)
    (hE : ∀ m cs x, DataW.trod enc P W 0 spare held m e cs = some x → ∃ y, Pr y ∧ d.K W y cs) (h : DataW.trod enc P W 0 spare held n t cs = some x) :
    ∃ A c l, cs = [.slice A l.length c] ∧ l.length ≤ c ∧ d.C W A l.length l ∧ ∀ y ∈ l, Pr y := by
  rcases DataW.trod_slice ht h with ⟨rfl, _⟩ | ⟨a, len, cap, elems, rest, m, _, rfl, _, _, hlc, hcm, hel, hr, _⟩
  · exact ⟨none, 0, [], rfl, Nat.le_refl _, Kd.C_nil d W, fun y hy => by simp at hy⟩
  · have hx : ∀ i, i < len → ∃ y, Pr y ∧ ∃ c, c.length = d.sz ∧ d.K W y c ∧ ∀ j u, c[j]? = some u → W.cell? (a.add (i * d.sz + j)) = some u := by
      intro i hi
      have h1 := hr i hi
      rw [List.getElem?_eq_getElem (by omega)] at h1
      obtain ⟨c, hc1, hc2⟩ := Option.bind_eq_some_iff.1 h1
      obtain ⟨y, hy, hk⟩ := hE _ _ _ hc2
      obtain ⟨_, hl, hcell⟩ := World.cells?_some hc1
      rw [hc] at hl hcell
      refine ⟨y, hy, c, hl, hk, fun j u hu => ?_⟩
      have hj : j < d.sz := by have := (List.getElem?_eq_some_iff.1 hu).1; omega
      have h2 := hcell j hj
      rw [Go.Deep.add_add] at h2
      rw [h2, hu]
    obtain ⟨f, hf⟩ := Go.Deep.choose_lt hx
    have hmax : cap ≤ 9223372036854775807 := hcm
    refine ⟨some a, cap, (List.range len).map f, by simp, by simpa using hlc, ⟨by simp, by simp; omega, fun _ => ⟨a, rfl, fun j p hp => ?_⟩⟩, fun y hy => ?_⟩
    · rw [List.getElem?_map] at hp
      obtain ⟨i, hi, rfl⟩ := Option.map_eq_some_iff.1 hp
      obtain ⟨hl, rfl⟩ := List.getElem?_eq_some_iff.1 hi
      simp only [List.length_range] at hl
      simpa using (hf j hl).2
    · obtain ⟨i, hi, rfl⟩ := List.mem_map.1 hy
      exact (hf i (List.mem_range.1 hi)).1

instance : Inhabited S56 := ⟨z56⟩
instance : Inhabited S24 := ⟨z24⟩

/-- A value: its number is one of 64 bits, its text no longer than may be. -/
def Ok56 (v : S56) : Prop := (Lit.int .u64 v.f0).wf = true ∧ v.f1.size ≤ 9223372036854775807
theorem c54 : Tryd.prog.cellsOf 54 = 1 := by kernel_rfl
theorem c3 : Tryd.prog.cellsOf 3 = 1 := by kernel_rfl
theorem c9 : Tryd.prog.cellsOf 9 = 1 := by kernel_rfl
theorem c22 : Tryd.prog.cellsOf 22 = 1 := by kernel_rfl
theorem c40 : Tryd.prog.cellsOf 40 = 3 := by kernel_rfl
theorem c56 : Tryd.prog.cellsOf 56 = 2 := by kernel_rfl
theorem c24 : Tryd.prog.cellsOf 24 = 3 := by kernel_rfl
theorem c43 : Tryd.prog.cellsOf 43 = 7 := by kernel_rfl
theorem list2 {α : Type} {cs : List α} (h : cs.length = 2) : ∃ c0 c1, cs = [c0, c1] := by
  match cs, h with
  | [c0, c1], _ => exact ⟨c0, c1, rfl⟩
theorem list3 {α : Type} {cs : List α} (h : cs.length = 3) : ∃ c0 c1 c2, cs = [c0, c1, c2] := by
  match cs, h with
  | [c0, c1, c2], _ => exact ⟨c0, c1, c2, rfl⟩
theorem list5 {α : Type} {cs : List α} (h : cs.length = 5) : ∃ c0 c1 c2 c3 c4, cs = [c0, c1, c2, c3, c4] := by
  match cs, h with
  | [c0, c1, c2, c3, c4], _ => exact ⟨c0, c1, c2, c3, c4, rfl⟩
theorem list7 {α : Type} {cs : List α} (h : cs.length = 7) : ∃ c0 c1 c2 c3 c4 c5 c6, cs = [c0, c1, c2, c3, c4, c5, c6] := by
  match cs, h with
  | [c0, c1, c2, c3, c4, c5, c6], _ => exact ⟨c0, c1, c2, c3, c4, c5, c6, rfl⟩

theorem open56 (m : Nat) (cs : List Value) (x : DataW H × List MemPlace) (h : DataW.trod enc Tryd.prog W 0 spare held m 56 cs = some x) : ∃ y, Ok56 y ∧ k56.K W y cs := by
  obtain ⟨y0, y1, n, _, hl, h0, h1⟩ := trod_struct2 Tryd.underlying56 h
  rw [c56] at hl
  obtain ⟨c0, c1, rfl⟩ := list2 hl
  obtain ⟨a, e0, _, hw⟩ := DataW.trod_int Tryd.underlying54 h0
  obtain ⟨s, e1, _, hs⟩ := DataW.trod_string Tryd.underlying9 h1
  simp only [c54, c9, List.drop_zero, List.take_succ_cons, List.take_zero, List.drop_succ_cons, List.cons.injEq, and_true] at e0 e1
  subst e0
  subst e1
  exact ⟨⟨a, s⟩, ⟨hw, hs⟩, k56_mk W ⟨a, s⟩⟩

/-- A method: its numbers are such, its values, too. -/
def Ok24 (m : S24) : Prop := (Lit.int .i64 m.f0).wf = true ∧ (Lit.int .i64 m.f1).wf = true ∧ ∀ v ∈ m.f2, Ok56 v
theorem open24 (m : Nat) (cs : List Value) (x : DataW H × List MemPlace) (h : DataW.trod enc Tryd.prog W 0 spare held m 24 cs = some x) : ∃ y, Ok24 y ∧ k24.K W y cs := by
  obtain ⟨y0, y1, y2, n, _, hl, h0, h1, h2⟩ := Go.Deep.trod_struct3 Tryd.underlying24 h
  rw [c24] at hl
  obtain ⟨c0, c1, c2, rfl⟩ := list3 hl
  obtain ⟨a, e0, _, hw0⟩ := DataW.trod_int Tryd.underlying3 h0
  obtain ⟨b, e1, _, hw1⟩ := DataW.trod_int Tryd.underlying3 h1
  obtain ⟨A, c, l, e2, hlc, hC, hP⟩ := open_kd k56 Ok56 Tryd.underlying22 c56 open56 h2
  simp only [c3, c22, List.drop_zero, List.take_succ_cons, List.take_zero, List.drop_succ_cons, List.cons.injEq, and_true] at e0 e1 e2
  subst e0
  subst e1
  subst e2
  exact ⟨⟨a, b, l⟩, ⟨hw0, hw1, hP⟩, k24_mk W ⟨a, b, l⟩ hlc hC⟩

theorem open40 (m : Nat) (cs : List Value) (x : DataW H × List MemPlace) (h : DataW.trod enc Tryd.prog W 0 spare held m 40 cs = some x) :
    ∃ a b c, cs = [.int .i64 a, .int .i64 b, .int .i64 c] ∧ (Lit.int .i64 a).wf = true ∧ (Lit.int .i64 b).wf = true ∧ (Lit.int .i64 c).wf = true := by
  obtain ⟨y0, y1, y2, n, _, hl, h0, h1, h2⟩ := Go.Deep.trod_struct3 Tryd.underlying40 h
  rw [c40] at hl
  obtain ⟨c0, c1, c2, rfl⟩ := list3 hl
  obtain ⟨a, e0, _, hw0⟩ := DataW.trod_int Tryd.underlying3 h0
  obtain ⟨b, e1, _, hw1⟩ := DataW.trod_int Tryd.underlying3 h1
  obtain ⟨c, e2, _, hw2⟩ := DataW.trod_int Tryd.underlying3 h2
  simp only [c3, List.drop_zero, List.take_succ_cons, List.take_zero, List.drop_succ_cons, List.cons.injEq, and_true] at e0 e1 e2
  subst e0
  subst e1
  subst e2
  exact ⟨a, b, c, rfl, hw0, hw1, hw2⟩

/-- A connection's numbers and texts are such. -/
structure Ok43 (st ch fr be : Int) (us wo ho : ByteArray) : Prop where
  st : (Lit.int .i64 st).wf = true
  ch : (Lit.int .i64 ch).wf = true
  fr : (Lit.int .i64 fr).wf = true
  be : (Lit.int .i64 be).wf = true
  us : us.size ≤ 9223372036854775807
  wo : wo.size ≤ 9223372036854775807
  ho : ho.size ≤ 9223372036854775807
theorem open43 (m : Nat) (cs : List Value) (x : DataW H × List MemPlace) (h : DataW.trod enc Tryd.prog W 0 spare held m 43 cs = some x) :
    ∃ st ch fr be us wo ho, cs = [.int .i64 st, .int .i64 ch, .int .i64 fr, .int .i64 be, .string us, .string wo, .string ho] ∧ Ok43 st ch fr be us wo ho := by
  obtain ⟨xs, n, _, _, hl, hlen, hf⟩ := DataW.trod_struct Tryd.underlying43 h
  rw [c43] at hl
  obtain ⟨c0, c1, c2, c3', c4, c5, c6, rfl⟩ := list7 hl
  obtain ⟨x0, x1, x2, x3, x4, rfl⟩ := list5 hlen
  obtain ⟨a, e0, _, hw0⟩ := DataW.trod_int Tryd.underlying3 (hf 0 _ rfl)
  obtain ⟨b1, b2, b3, e1, hw1, hw2, hw3⟩ := open40 _ _ _ (hf 1 _ rfl)
  obtain ⟨u, e2, _, hs2⟩ := DataW.trod_string Tryd.underlying9 (hf 2 _ rfl)
  obtain ⟨w, e3, _, hs3⟩ := DataW.trod_string Tryd.underlying9 (hf 3 _ rfl)
  obtain ⟨o, e4, _, hs4⟩ := DataW.trod_string Tryd.underlying9 (hf 4 _ rfl)
  simp [c3, c9, c40] at e0 e1 e2 e3 e4
  obtain ⟨rfl, rfl, rfl⟩ := e1
  subst e0
  subst e2
  subst e3
  subst e4
  exact ⟨a, b1, b2, b3, u, w, o, rfl, hw0, hw1, hw2, hw3, hs2, hs3, hs4⟩

/-! Arguments. -/
theorem arg24 {r : Reach} {b0 : Nat} {v : Value} {d : DataW H} {p : List MemPlace} (hv : Value.okWide Tryd.prog W r b0 24 v) (h : DataW.Trod enc Tryd.prog W 0 spare held 24 v d p) :
    ∃ c i A cap l, v = .agg #[.int .i64 c, .int .i64 i, .slice A l.length cap] ∧ l.length ≤ cap ∧ Kd.C k56 W A l.length l ∧ Ok24 ⟨c, i, l⟩ := by
  obtain ⟨cs, rfl, hsz⟩ := okWide_struct Tryd.underlying24 hv
  obtain ⟨fuel, hf⟩ := h
  obtain ⟨y, hy, hk⟩ := open24 _ _ _ hf
  obtain ⟨A, c, e, hl, hC⟩ := k24_open hk
  refine ⟨y.f0, y.f1, A, c, y.f2, ?_, hl, hC, hy⟩
  have e' : cs.toList = [.int .i64 y.f0, .int .i64 y.f1, .slice A y.f2.length c] := e
  obtain ⟨cs⟩ := cs
  simp only at e'
  rw [e']
theorem arg40 {r : Reach} {b0 : Nat} {v : Value} {d : DataW H} {p : List MemPlace} (hv : Value.okWide Tryd.prog W r b0 40 v) (h : DataW.Trod enc Tryd.prog W 0 spare held 40 v d p) :
    ∃ a b c, v = .agg #[.int .i64 a, .int .i64 b, .int .i64 c] ∧ (Lit.int .i64 a).wf = true ∧ (Lit.int .i64 b).wf = true ∧ (Lit.int .i64 c).wf = true := by
  obtain ⟨cs, rfl, hsz⟩ := okWide_struct Tryd.underlying40 hv
  obtain ⟨fuel, hf⟩ := h
  obtain ⟨a, b, c, e, hw⟩ := open40 _ _ _ hf
  refine ⟨a, b, c, ?_, hw⟩
  have e' : cs.toList = [.int .i64 a, .int .i64 b, .int .i64 c] := e
  obtain ⟨cs⟩ := cs
  simp only at e'
  rw [e']
theorem arg43 {r : Reach} {b0 : Nat} {v : Value} {d : DataW H} {p : List MemPlace} (hv : Value.okWide Tryd.prog W r b0 43 v) (h : DataW.Trod enc Tryd.prog W 0 spare held 43 v d p) :
    ∃ st ch fr be us wo ho, v = .agg #[.int .i64 st, .int .i64 ch, .int .i64 fr, .int .i64 be, .string us, .string wo, .string ho] ∧ Ok43 st ch fr be us wo ho := by
  obtain ⟨cs, rfl, hsz⟩ := okWide_struct Tryd.underlying43 hv
  obtain ⟨fuel, hf⟩ := h
  obtain ⟨st, ch, fr, be, us, wo, ho, e, hw⟩ := open43 _ _ _ hf
  refine ⟨st, ch, fr, be, us, wo, ho, ?_, hw⟩
  have e' : cs.toList = [.int .i64 st, .int .i64 ch, .int .i64 fr, .int .i64 be, .string us, .string wo, .string ho] := e
  obtain ⟨cs⟩ := cs
  simp only at e'
  rw [e']
theorem arg41 {r : Reach} {b0 : Nat} {v : Value} {d : DataW H} {p : List MemPlace} (hv : Value.okWide Tryd.prog W r b0 41 v) (h : DataW.Trod enc Tryd.prog W 0 spare held 41 v d p) :
    ∃ A cap l, v = .slice A l.length cap ∧ l.length ≤ cap ∧ Kd.C k24 W A l.length l ∧ ∀ m ∈ l, Ok24 m := by
  obtain ⟨a, len, cap, rfl⟩ := okWide_slice Tryd.underlying41 hv
  obtain ⟨fuel, hf⟩ := h
  obtain ⟨A, c, l, e, hlc, hC, hP⟩ := open_kd k24 Ok24 Tryd.underlying41 c24 open24 hf
  simp [Value.cells] at e
  obtain ⟨rfl, rfl, rfl⟩ := e
  exact ⟨_, _, l, rfl, hlc, hC, hP⟩

end
end Go.Proofs.YtdogcnadopepmaaDoor.R
end

/- What the rows' condition on num.widths gives; a world that meets it. -/
section
namespace Go.Proofs.YtdogcnadopepmaaDoor.R
open Go.RowKit Go.ChangeShapes Go.WideShapes Go.Proofs.YtdogcnadopepmaaDoor.M

theorem gWidths : Tryd.prog.globalNamed "interchange/num.widths" = some 0 := by kernel_rfl
theorem tWidths : (Tryd.prog.globals[0]?).map (·.type) = some 185 := by kernel_rfl
theorem cells185 : Tryd.prog.cellsOf 185 = 4 := by kernel_rfl
theorem cells3 : Tryd.prog.cellsOf 3 = 1 := by kernel_rfl

/-- What the list gives, wherever the variable stands on it. -/
theorem wd_of_vars {W : World} {r : List (String × DataW Unit)} {ps : List MemPlace} (h : DataW.LaidVars Tryd.prog W (("interchange/num.widths", Rows.laid_interchange_num_widths) :: r) ps)
    (hc : ∀ b off, MemPlace.cell b off ∈ ps → (∃ c t, W.heap[b]? = some (.cells c t (0, 0))) ∧ ∀ u v, W.cell? ⟨b, off, none⟩ = some (.iface u v) → Value.okWide Tryd.prog W .any 0 u v) : Wd W := by
  obtain ⟨g, t, cs, fuel, p, q, hg, ht, hv, hd, _, rfl⟩ := h
  obtain rfl := Option.some.inj (gWidths.symm.trans hg)
  obtain rfl := Option.some.inj (tWidths.symm.trans ht)
  have e : cs.toList = [Value.int .i64 1, .int .i64 2, .int .i64 4, .int .i64 8] := Lib.cells_of_tab (H := Unit) (k := .i64) (zs := [1, 2, 4, 8]) Tryd.underlying185 Tryd.underlying3 cells3 cells185 hd
  obtain ⟨cs⟩ := cs
  simp only at e
  subst e
  obtain ⟨⟨c, t, hb⟩, _⟩ := hc 0 0 (by simp [MemPlace.row])
  unfold World.var? at hv
  rw [gWidths] at hv
  simp only [Option.bind_some, hb, Option.some.injEq] at hv
  exact ⟨t, by rw [hb, hv]⟩

theorem wd_of_laid {W : World} (h : laidMetH Tryd.prog [("interchange/num.widths", Rows.laid_interchange_num_widths)] W) : Wd W := by
  rw [MakeChecks.laidMetH_plain _ _ _ (by kernel_rfl)] at h
  obtain ⟨ps, h1, _, h3⟩ := h
  exact wd_of_vars h1 h3

/-- A world for the witness: the settled one, num.widths holding what its text lays. -/
noncomputable def laidWorld (os : Os) : World :=
  { World.holding Tryd.prog os ⟨#[], #[], []⟩ with heap := (World.holding Tryd.prog os ⟨#[], #[], []⟩).heap.modify 0 fun
      | .cells _ t frozen => .cells #[.int .i64 1, .int .i64 2, .int .i64 4, .int .i64 8] t frozen
      | o => o }
end Go.Proofs.YtdogcnadopepmaaDoor.R
end
