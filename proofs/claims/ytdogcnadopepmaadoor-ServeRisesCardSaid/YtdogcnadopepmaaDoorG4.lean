/- Texts of this seat's, one behind the other (merge.py). -/
import Derived.Test.YtdogcnadopepmaaDoorG3
import Derived.Test.YtdogcnadopepmaaDoorG1
import Derived.Maps.Range
import Derived.WalkMore
import Derived.Laws.EntriesVeiled
import Derived.Test.YtdogcnadopepmaaDoorH0
import Derived.Test.YtdogcnadopepmaaDoorG2
import Derived.ScopeJumps
import Derived.StillTailTactics
/- method.rights: a map of closures, laid while two maps are ranged over in whatever order: what it holds. -/
section
namespace Go.Proofs.YtdogcnadopepmaaDoor.M
set_option linter.unusedSimpArgs false
open Go.RowKit Go.Proofs.YtdogcnadopepmaaDoorW.PrintWords Go.Proofs.YtdogcnadopepmaaDoorW.PrintLast Go.Proofs.YtdogcnadopepmaaDoor.H
open Go.ChangeMaps (setBlock)

/-- A closure over a function in a box and a number in a box; 't': it is a number's width. -/
def Clo (n : Nat) (W : World) (v : Value) (z : Value) (t : Bool) : Prop :=
  ∃ b p, n ≤ b ∧ n ≤ p ∧ v = .func (.func (if t then 94 else 96)) #[] #[.pointer (some ⟨b, 0, none⟩), .pointer (some ⟨p, 0, none⟩)] ∧
    BlockIs W b (if t then 158 else 159) #[.func (.func (if t then 92 else 93)) #[] #[]] ∧ BlockIs W p (if t then 90 else 160) #[z]

/-- The map in block o holds, of each letter, a closure. -/
def OutIs (n : Nat) (W : World) (o : Nat) (D : Int → Option (Value × Bool)) : Prop :=
  n ≤ o ∧ ∃ es clk, W.heap[o]? = some (.map es clk) ∧ keyed es.toList ∧ ∀ c, (D c = none → lk es.toList c = none) ∧ ∀ z t, D c = some (z, t) → ∃ v, lk es.toList c = some v ∧ Clo n W v z t

theorem Clo.kept {n : Nat} {W W' : World} {v z : Value} {t : Bool} {x : Nat} (h : Clo n W v z t) (hg : W.grownBy W' (some x)) (hx : ∀ cs t s, W.heap[x]? ≠ some (.cells cs t s)) : Clo n W' v z t := by
  obtain ⟨b, p, h1, h2, h3, h4, h5⟩ := h
  have e : ∀ {y : Nat} {t : TypeId} {cs : Array Value}, BlockIs W y t cs → some y ≠ some x := fun hy e => by
    simp only [Option.some.injEq] at e
    subst e
    exact hx _ _ _ hy
  exact ⟨b, p, h1, h2, h3, h4.kept hg (e h4), h5.kept hg (e h5)⟩
theorem OutIs.kept {n o : Nat} {W W' : World} {D : Int → Option (Value × Bool)} {x : Nat} (h : OutIs n W o D) (hg : W.grownBy W' (some x)) (hx : ∀ cs t s, W.heap[x]? ≠ some (.cells cs t s)) (hxo : x ≠ o) : OutIs n W' o D := by
  obtain ⟨h0, es, clk, h1, h2, h3⟩ := h
  refine ⟨h0, es, clk, ?_, h2, fun c => ⟨(h3 c).1, fun z t hz => ?_⟩⟩
  · rw [hg.block o (Array.getElem?_eq_some_iff.1 h1).1 (fun e => hxo (by simpa using e.symm)), h1]
  · obtain ⟨v, hv, hc⟩ := (h3 c).2 z t hz
    exact ⟨v, hv, hc.kept hg hx⟩
theorem OutIs.below {n o : Nat} {W W' : World} {D : Int → Option (Value × Bool)} (h : OutIs n W o D) (hb : Below W.heap.size W W') : OutIs n W' o D := by
  refine h.kept (x := W.heap.size) ⟨hb.os, hb.tape, hb.output, hb.size, fun k hk _ => hb.block k hk⟩ (fun cs t s e => by simp at e) (fun e => ?_)
  obtain ⟨_, es, clk, h1, _⟩ := h
  have := (Array.getElem?_eq_some_iff.1 h1).1
  omega

theorem grownBy_setBlock {W : World} (x : Nat) (o : Obj) : W.grownBy (setBlock W x o) (some x) :=
  ⟨rfl, rfl, rfl, by simp [setBlock], fun k _ hk => by
    have : k ≠ x := fun e => hk (by rw [e])
    simp [setBlock, Array.getElem?_setIfInBounds, Ne.symm this]⟩

theorem lk_push {es : Array MapEntry} (h : keyed es.toList) (c0 : Int) (v : Value) (b : Nat) (c : Int) : lk (es.push { key := .int .u8 c0, val := v, born := b }).toList c = (lk es.toList c).or (if c = c0 then some v else none) := by
  rw [Array.toList_push]
  exact lk_append es.toList _ c0 rfl c h

/-- A store of a closure under a letter that has none. -/
theorem OutIs.put {n o : Nat} {W : World} {D : Int → Option (Value × Bool)} (h : OutIs n W o D) (c0 : Int) (v z : Value) (t : Bool) (hc : D c0 = none) (hv : Clo n W v z t) :
    ∃ W', (Instr.mapUpdate 102 (.map (some o)) (.int .u8 c0) v).run Tryd.prog W = .ok () W' ∧ OutIs n W' o (fun c => if c = c0 then some (z, t) else D c) ∧ W.grownBy W' (some o) := by
  have h' := h
  obtain ⟨h0, es, clk, h1, h2, h3⟩ := h
  have hlt := (Array.getElem?_eq_some_iff.1 h1).1
  have hrun := run_mapUpdate_u8 (P := Tryd.prog) (T := 102) (K := 5) (E := 104) Tryd.underlying102 Tryd.underlying5 h1 h2 c0 v ((h3 c0).1 hc)
  have hg := grownBy_setBlock (W := W) o (.map (es.push { key := .int .u8 c0, val := v, born := clk }) (clk + 1))
  have hx : ∀ cs t s, W.heap[o]? ≠ some (.cells cs t s) := fun cs t s e => by rw [h1] at e; cases e
  refine ⟨_, hrun, ⟨h0, es.push { key := .int .u8 c0, val := v, born := clk }, clk + 1, by simp [hlt], keyed_push h2 c0 v clk, fun c => ?_⟩, hg⟩
  rw [lk_push h2]
  dsimp only
  by_cases e : c = c0
  · subst e
    simp only [if_true, (h3 c).1 hc, Option.none_or]
    refine ⟨fun e => by simp at e, fun z' t' e => ?_⟩
    simp only [Option.some.injEq, Prod.mk.injEq] at e
    obtain ⟨rfl, rfl⟩ := e
    exact ⟨v, rfl, hv.kept hg hx⟩
  · simp only [if_neg e, Option.or_none]
    refine ⟨(h3 c).1, fun z' t' e' => ?_⟩
    obtain ⟨u, hu, hcl⟩ := (h3 c).2 z' t' e'
    exact ⟨u, hu, hcl.kept hg hx⟩

/-- A look-up of a letter that it has. -/
theorem OutIs.get {n o : Nat} {W : World} {D : Int → Option (Value × Bool)} (h : OutIs n W o D) (c : Int) (z : Value) (t : Bool) (hc : D c = some (z, t)) :
    ∃ v, (Instr.lookup 102 (.map (some o)) (.int .u8 c) false).run Tryd.prog W = .ok v W ∧ Clo n W v z t := by
  obtain ⟨h0, es, clk, h1, h2, h3⟩ := h
  obtain ⟨v, hv, hcl⟩ := (h3 c).2 z t hc
  have hz : (zeroValue 104).run Tryd.prog W = .ok .nilFunc W := by kernel_rfl
  have := run_lookup_u8 (P := Tryd.prog) (T := 102) (K := 5) (E := 104) Tryd.underlying102 Tryd.underlying5 h1 h2 hz c false
  rw [hv] at this
  exact ⟨v, by simpa using this, hcl⟩

/-- A range under way: what has been handed out has its closure. -/
structure RtInv (n o m r : Nat) (L : List (Int × Value)) (t : Bool) (D0 : Int → Option (Value × Bool)) (seen : Array Nat) (c0 : Nat) (W : World) : Prop where
  no : n ≤ o
  nm : n ≤ m
  nr : n ≤ r
  om : o ≠ m
  ndup : (L.map (·.1)).Nodup
  hm : W.heap[m]? = some (.map (mkEs L 0).toArray L.length)
  hr : W.heap[r]? = some (.mapIter (some m) L.length seen c0)
  hc : L.length ≤ c0
  b1 : BlockIs W n 158 #[.func (.func 92) #[] #[]]
  b2 : BlockIs W (n + 1) 159 #[.func (.func 93) #[] #[]]
  out : ∃ D, OutIs n W o D ∧ (∀ i p, L[i]? = some p → D p.1 = if seen.contains i then some (p.2, t) else none) ∧ ∀ c, c ∉ L.map (·.1) → D c = D0 c

theorem mkEs_mem : ∀ (L : List (Int × Value)) (n : Nat) (e : MapEntry), e ∈ mkEs L n → ∃ i p, L[i]? = some p ∧ e = { key := .int .u8 p.1, val := p.2, born := n + i }
  | [], _, e, h => by simp [mkEs] at h
  | q :: l, n, e, h => by
    simp only [mkEs, List.mem_cons] at h
    rcases h with rfl | h
    · exact ⟨0, q, rfl, rfl⟩
    · obtain ⟨i, p, hp, rfl⟩ := mkEs_mem l (n + 1) e h
      exact ⟨i + 1, p, by simpa using hp, by simp; omega⟩
theorem mkEs_has : ∀ (L : List (Int × Value)) (n i : Nat) (p : Int × Value), L[i]? = some p → ({ key := .int .u8 p.1, val := p.2, born := n + i } : MapEntry) ∈ mkEs L n
  | [], _, i, p, h => by simp at h
  | q :: l, n, 0, p, h => by simp at h; subst h; simp [mkEs]
  | q :: l, n, i + 1, p, h => by
    have := mkEs_has l (n + 1) i p (by simpa using h)
    simp only [mkEs, List.mem_cons]
    right
    rw [show n + (i + 1) = n + 1 + i by omega]
    exact this
theorem mkEs_born (L : List (Int × Value)) : ∀ n, (mkEs L n).map (·.born) = (List.range' n L.length) := by
  induction L with
  | nil => intro n; rfl
  | cons q l ih => intro n; simp [mkEs, ih (n + 1), List.range'_succ]

theorem nodup_idx {L : List (Int × Value)} (h : (L.map (·.1)).Nodup) {i j : Nat} {p q : Int × Value} (hi : L[i]? = some p) (hj : L[j]? = some q) (e : p.1 = q.1) : i = j := by
  have hi' : i < L.length := (List.getElem?_eq_some_iff.1 hi).1
  have hj' : j < L.length := (List.getElem?_eq_some_iff.1 hj).1
  have e1 : (L.map (·.1))[i]'(by simpa using hi') = (L.map (·.1))[j]'(by simpa using hj') := by
    simp only [List.getElem_map]
    rw [(List.getElem?_eq_some_iff.1 hi).2, (List.getElem?_eq_some_iff.1 hj).2, e]
  have hp := List.pairwise_iff_getElem.1 h
  rcases Nat.lt_trichotomy i j with hl | hl | hl
  · exact absurd e1 (hp i j (by simpa using hi') (by simpa using hj') hl)
  · exact hl
  · exact absurd e1.symm (hp j i (by simpa using hj') (by simpa using hi') hl)

section
variable {n o m r : Nat} {L : List (Int × Value)} {t : Bool} {D0 : Int → Option (Value × Bool)} {seen : Array Nat} {c0 : Nat} {W : World}

theorem RtInv.next (h : RtInv n o m r L t D0 seen c0 W) :
    ((∀ i, i < L.length → seen.contains i = true) ∧ ∀ ty, (Instr.next (.pointer (some ⟨r, 0, none⟩)) false ty).run Tryd.prog W = .ok (.tuple #[.bool false]) W) ∨
    ∃ i p W', L[i]? = some p ∧ seen.contains i = false ∧ (leftOf (mkEs L 0).toArray (seen.push i)).size < (leftOf (mkEs L 0).toArray seen).size ∧ (∀ ty, (Instr.next (.pointer (some ⟨r, 0, none⟩)) false ty).run Tryd.prog W = .ok (.tuple #[.bool true, .int .u8 p.1, p.2]) W') ∧
      (∀ W2 : World, W2.heap = W'.heap → (Instr.entry (.pointer (some ⟨r, 0, none⟩))).run Tryd.prog W2 = .ok (.tuple #[.int .u8 p.1, p.2]) W2) ∧ W.grownBy W' (some r) ∧ W'.heap[r]? = some (.mapIter (some m) L.length (seen.push i) L.length) := by
  have hold : ∀ x ∈ (mkEs L 0).toArray.toList, x.born < L.length := fun x hx => by
    obtain ⟨i, p, hp, rfl⟩ := mkEs_mem L 0 x (by simpa using hx)
    have := (List.getElem?_eq_some_iff.1 hp).1
    simpa using this
  have hq : ∀ ty, _ := fun ty => run_next_at (P := Tryd.prog) W ty r m L.length c0 seen (mkEs L 0).toArray L.length h.hr h.hm hold h.hc
  have hq0 := hq 0
  by_cases h0 : (leftOf (mkEs L 0).toArray seen).size = 0
  · refine .inl ⟨fun i hi => ?_, fun ty => ?_⟩
    · obtain ⟨p, hp⟩ : ∃ p, L[i]? = some p := ⟨L[i], by simp [hi]⟩
      have := all_seen _ seen h0 { key := .int .u8 p.1, val := p.2, born := 0 + i } (by simpa using mkEs_has L 0 i p hp)
      simpa using this
    · rcases hq ty with ⟨_, hrun⟩ | ⟨e, he, _⟩
      · exact hrun
      · exfalso
        have : leftOf (mkEs L 0).toArray seen = #[] := Array.eq_empty_of_size_eq_zero h0
        rw [this] at he
        simp at he
  · rcases hq0 with ⟨h1, _⟩ | ⟨e, he, w1, hal, hrun⟩
    · exact absurd h1 h0
    · obtain ⟨hem, hes⟩ := mem_left he
      obtain ⟨i, p, hp, rfl⟩ := mkEs_mem L 0 e (by simpa using hem)
      simp only [Nat.zero_add] at hes hrun he hem
      have hlt : r < W.heap.size := (Array.getElem?_eq_some_iff.1 h.hr).1
      have hw1 : w1.heap = W.heap := by rcases hal with rfl | rfl <;> rfl
      have hr' : (setBlock w1 r (.mapIter (some m) L.length (seen.push i) L.length)).heap[r]? = some (.mapIter (some m) L.length (seen.push i) L.length) := by simp [setBlock, hw1, hlt]
      have hrm : r ≠ m := fun e => by have := h.hr; rw [e, h.hm] at this; cases this
      refine .inr ⟨i, p, _, hp, hes, left_shrinks _ seen _ he, fun ty => hrun, fun W2 hW2 => ?_, ?_, hr'⟩
      · refine run_entry_at (P := Tryd.prog) W2 r m L.length seen (mkEs L 0).toArray L.length { key := .int .u8 p.1, val := p.2, born := i } (by rw [hW2]; exact hr') ?_ hem ?_
        · rw [hW2]
          simp [setBlock, hw1, Ne.symm hrm, h.hm, Array.getElem?_setIfInBounds, hrm]
        · rw [show (mkEs L 0).toArray.toList = mkEs L 0 by simp, mkEs_born]
          exact List.nodup_range'
      · rcases hal with rfl | rfl
        · exact grownBy_setBlock r _
        · have hg := grownBy_setBlock (W := W) r (.mapIter (some m) L.length (seen.push i) L.length)
          exact ⟨rfl, rfl, rfl, hg.size, hg.block⟩
end
end Go.Proofs.YtdogcnadopepmaaDoor.M
end

/- method.rights: the walk. -/
section
namespace Go.Proofs.YtdogcnadopepmaaDoor.M
open Go.RowKit Go.Proofs.YtdogcnadopepmaaDoorW.PrintWords Go.Proofs.YtdogcnadopepmaaDoorW.PrintLast Go.Proofs.YtdogcnadopepmaaDoor.H
open Go.ChangeMaps (setBlock)
set_option linter.unusedSimpArgs false
set_option linter.unusedVariables false

theorem below_grown_ge {n : Nat} {W W' : World} {x : Nat} (hg : W.grownBy W' (some x)) (hn : n ≤ W.heap.size) (hx : n ≤ x) : Below n W W' :=
  (Below.refl n W).grown hg hn (fun k e => by simp only [Option.some.injEq] at e; omega)

section
variable {n o m r : Nat} {L : List (Int × Value)} {t : Bool} {D0 : Int → Option (Value × Bool)} {seen : Array Nat} {c0 : Nat} {W : World}

theorem RtInv.body (h : RtInv n o m r L t D0 seen c0 W) {i : Nat} {p : Int × Value} {W' : World} (hp : L[i]? = some p) (hs : seen.contains i = false) (hg : W.grownBy W' (some r)) (hr' : W'.heap[r]? = some (.mapIter (some m) L.length (seen.push i) L.length)) :
    ∃ W2, (Instr.mapUpdate 102 (.map (some o)) (.int .u8 p.1) (.func (.func (if t then 94 else 96)) #[] #[.pointer (some ⟨if t then n else n + 1, 0, none⟩), .pointer (some ⟨W'.heap.size, 0, none⟩)])).run Tryd.prog (W'.alloc (.cells #[p.2] (if t then 90 else 160))) = .ok () W2 ∧
      RtInv n o m r L t D0 (seen.push i) L.length W2 ∧ Below n W W2 := by
  have hlr : r < W.heap.size := (Array.getElem?_eq_some_iff.1 h.hr).1
  have hlm : m < W.heap.size := (Array.getElem?_eq_some_iff.1 h.hm).1
  have hsz := hg.size
  have hnr := h.nr
  have hno := h.no
  have hnm := h.nm
  have hxr : ∀ cs t s, W.heap[r]? ≠ some (.cells cs t s) := fun cs t s e => by rw [h.hr] at e; cases e
  have hrm : r ≠ m := fun e => by have := h.hr; rw [e, h.hm] at this; cases this
  obtain ⟨D, hD, hD1, hD2⟩ := h.out
  have hlo : o < W.heap.size := by
    obtain ⟨_, es, clk, h1, _⟩ := hD
    exact (Array.getElem?_eq_some_iff.1 h1).1
  have hro : r ≠ o := fun e => by
    obtain ⟨_, es, clk, h1, _⟩ := hD
    have := h.hr
    rw [e, h1] at this
    cases this
  -- behind the step
  have a1 := hD.kept hg hxr hro
  have e1 : ∀ {y : Nat} {t : TypeId} {cs : Array Value}, BlockIs W y t cs → some y ≠ some r := fun hy e => by
    simp only [Option.some.injEq] at e
    subst e
    exact hxr _ _ _ hy
  have b1 := h.b1.kept hg (e1 h.b1)
  have b2 := h.b2.kept hg (e1 h.b2)
  have m1 : W'.heap[m]? = some (.map (mkEs L 0).toArray L.length) := (hg.block m hlm (by simpa using Ne.symm hrm)).trans h.hm
  -- behind the new box
  have hB : Below W'.heap.size W' (W'.alloc (.cells #[p.2] (if t then 90 else 160))) := ((Below.refl _ W').alloc (Nat.le_refl _) _)
  have bp : BlockIs (W'.alloc (.cells #[p.2] (if t then 90 else 160))) W'.heap.size (if t then 90 else 160) #[p.2] := by
    exact BlockIs.new W' (if t then 90 else 160) #[p.2]
  generalize (W'.alloc (.cells #[p.2] (if t then 90 else 160))) = Wb at hB bp
  have a2 := a1.below hB
  have c1 := b1.below hB b1.lt
  have c2 := b2.below hB b2.lt
  have m2 : Wb.heap[m]? = some (.map (mkEs L 0).toArray L.length) := (hB.block m (by omega)).trans m1
  have r2 : Wb.heap[r]? = some (.mapIter (some m) L.length (seen.push i) L.length) := (hB.block r (by omega)).trans hr'
  have hcl : Clo n Wb (.func (.func (if t then 94 else 96)) #[] #[.pointer (some ⟨if t then n else n + 1, 0, none⟩), .pointer (some ⟨W'.heap.size, 0, none⟩)]) p.2 t := by
    refine ⟨if t then n else n + 1, W'.heap.size, by split <;> omega, by omega, rfl, ?_, bp⟩
    cases t
    · exact c2
    · exact c1
  have hn : D p.1 = none := by rw [hD1 i p hp, hs]; rfl
  obtain ⟨W2, hrun, ho2, hg2⟩ := a2.put p.1 _ p.2 t hn hcl
  have hsz2 := hB.size
  have hxo : ∀ cs t s, Wb.heap[o]? ≠ some (.cells cs t s) := fun cs t s e => by
    obtain ⟨_, es, clk, h1, _⟩ := a2
    rw [h1] at e
    cases e
  have e2 : ∀ {y : Nat} {t : TypeId} {cs : Array Value}, BlockIs Wb y t cs → some y ≠ some o := fun hy e => by
    simp only [Option.some.injEq] at e
    subst e
    exact hxo _ _ _ hy
  refine ⟨W2, hrun, ⟨hno, hnm, hnr, h.om, h.ndup, (hg2.block m (by omega) (by simpa using Ne.symm h.om)).trans m2, (hg2.block r (by omega) (by simpa using hro)).trans r2, Nat.le_refl _, c1.kept hg2 (e2 c1), c2.kept hg2 (e2 c2), _, ho2, ?_, ?_⟩, ?_⟩
  · intro j q hj
    have hpc : (seen.push i).contains j = (seen.contains j || j == i) := by
      rw [Bool.eq_iff_iff]
      simp [Array.mem_push]
    by_cases e : q.1 = p.1
    · obtain rfl : j = i := nodup_idx h.ndup hj hp e
      rw [hp] at hj
      simp only [Option.some.injEq] at hj
      subst hj
      rw [if_pos rfl, hpc]
      simp
    · rw [if_neg e, hD1 j q hj, hpc]
      have : (j == i) = false := beq_eq_false_iff_ne.2 (fun e' => e (by subst e'; rw [hp] at hj; simp only [Option.some.injEq] at hj; rw [hj]))
      simp [this]
  · intro c hc
    rw [if_neg (fun e => hc (by rw [e]; exact List.mem_map.2 ⟨p, List.mem_of_getElem? hp, rfl⟩))]
    exact hD2 c hc
  · have hA : Below n W W' := below_grown_ge hg (by omega) hnr
    have hB' : Below n W' Wb := ⟨hB.os, hB.tape, hB.output, hB.size, fun k hk => hB.block k (by omega)⟩
    exact (hA.trans hB').trans (below_grown_ge hg2 (by omega) hno)

theorem RtInv.all (h : RtInv n o m r L t D0 seen c0 W) (ha : ∀ i, i < L.length → seen.contains i = true) : OutIs n W o (fun c => match kv L c with | some z => some (z, t) | none => D0 c) := by
  obtain ⟨D, hD, hD1, hD2⟩ := h.out
  have : D = (fun c => match kv L c with | some z => some (z, t) | none => D0 c) := by
    funext c
    by_cases hc : c ∈ L.map (·.1)
    · obtain ⟨p, hp, rfl⟩ := List.mem_map.1 hc
      obtain ⟨i, hi⟩ := List.getElem?_of_mem hp
      rw [hD1 i p hi, ha i (List.getElem?_eq_some_iff.1 hi).1]
      have : ∀ (l : List (Int × Value)), (l.map (·.1)).Nodup → p ∈ l → kv l p.1 = some p.2 := by
        intro l
        induction l with
        | nil => intro _ h; simp at h
        | cons q l ih =>
          intro hn hm
          simp only [List.map_cons, List.nodup_cons] at hn
          rcases List.mem_cons.1 hm with rfl | hm
          · simp [kv]
          · have : p.1 ≠ q.1 := fun e => hn.1 (by rw [← e]; exact List.mem_map.2 ⟨p, hm, rfl⟩)
            simp [kv, this, ih hn.2 hm]
      rw [this L h.ndup hp]
      rfl
    · rw [hD2 c hc, kv_none L c hc]
  rw [← this]
  exact hD
end

def rightsD (c : Int) : Option (Value × Bool) := match kv textsL c with | some z => some (z, false) | none => match kv widthsL c with | some z => some (z, true) | none => none

set_option maxRecDepth 100000 in
set_option maxHeartbeats 8000000 in
theorem rights_any (w : World) : Calls Tryd.prog 56 #[] w fun e w' => ∃ o, e = .returned (.map (some o)) ∧ OutIs w.heap.size w' o rightsD ∧ Below w.heap.size w w' := by
  have hmm := @run_makeMap Tryd.prog
  have C45 := fun w => widths_any w
  have C95 := fun w => texts_any w
  have H45 := Lib.hid C45
  have H95 := Lib.hid C95
  clear C45 C95
  have hrg := run_range_map (P := Tryd.prog) ((((w.alloc (.cells #[.func (.func 92) #[] #[]] 158)).alloc (.cells #[.func (.func 93) #[] #[]] 159)).alloc (.map #[] 0)).alloc (.map (mkEs widthsL 0).toArray 5)) 92 5 90 (w.heap.size + 1 + 1 + 1) (mkEs widthsL 0).toArray 5 Tryd.underlying92 (by
    have := World.alloc_heap_new (((w.alloc (.cells #[.func (.func 92) #[] #[]] 158)).alloc (.cells #[.func (.func 93) #[] #[]] 159)).alloc (.map #[] 0)) (.map (mkEs widthsL 0).toArray 5)
    simpa using this)
  have s1 : (((w.alloc (.cells #[.func (.func 92) #[] #[]] 158)).alloc (.cells #[.func (.func 93) #[] #[]] 159)).alloc (.map #[] 0)).heap.size = w.heap.size + 1 + 1 + 1 := by simp
  have h0 : RtInv w.heap.size (w.heap.size + 1 + 1) (w.heap.size + 1 + 1 + 1) (w.heap.size + 1 + 1 + 1 + 1) widthsL true (fun _ => none) #[] 5
      (((((w.alloc (.cells #[.func (.func 92) #[] #[]] 158)).alloc (.cells #[.func (.func 93) #[] #[]] 159)).alloc (.map #[] 0)).alloc (.map (mkEs widthsL 0).toArray 5)).alloc (.mapIter (some (w.heap.size + 1 + 1 + 1)) 5 #[] 5)) := by
    refine ⟨by omega, by omega, by omega, by omega, by decide, ?_, ?_, Nat.le_refl _, ?_, ?_, fun _ => none, ⟨by omega, #[], 0, ?_, by intro e he; simp at he, fun c => ⟨fun _ => rfl, fun z t e => by simp at e⟩⟩, fun i p _ => by simp, fun c _ => rfl⟩
    · have := World.alloc_heap_new (((w.alloc (.cells #[.func (.func 92) #[] #[]] 158)).alloc (.cells #[.func (.func 93) #[] #[]] 159)).alloc (.map #[] 0)) (.map (mkEs widthsL 0).toArray 5)
      rw [s1] at this
      rw [heap_alloc_old _ _ (by simp)]
      exact this
    · have := World.alloc_heap_new ((((w.alloc (.cells #[.func (.func 92) #[] #[]] 158)).alloc (.cells #[.func (.func 93) #[] #[]] 159)).alloc (.map #[] 0)).alloc (.map (mkEs widthsL 0).toArray 5)) (.mapIter (some (w.heap.size + 1 + 1 + 1)) 5 #[] 5)
      exact show _ = some (Obj.mapIter (some (w.heap.size + 1 + 1 + 1)) 5 #[] 5) by simpa using this
    · exact ((((BlockIs.new w 158 _).alloc _).alloc _).alloc _).alloc _
    · have := (((BlockIs.new (w.alloc (.cells #[.func (.func 92) #[] #[]] 158)) 159 #[.func (.func 93) #[] #[]]).alloc (.map #[] 0)).alloc (.map (mkEs widthsL 0).toArray 5)).alloc (.mapIter (some (w.heap.size + 1 + 1 + 1)) 5 #[] 5)
      simpa using this
    · have := World.alloc_heap_new ((w.alloc (.cells #[.func (.func 92) #[] #[]] 158)).alloc (.cells #[.func (.func 93) #[] #[]] 159)) (.map #[] 0)
      rw [heap_alloc_old _ _ (by simp), heap_alloc_old _ _ (by simp)]
      simpa using this
  have h1 : Below w.heap.size w (((((w.alloc (.cells #[.func (.func 92) #[] #[]] 158)).alloc (.cells #[.func (.func 93) #[] #[]] 159)).alloc (.map #[] 0)).alloc (.map (mkEs widthsL 0).toArray 5)).alloc (.mapIter (some (w.heap.size + 1 + 1 + 1)) 5 #[] 5)) :=
    (((((Below.refl _ w).alloc (Nat.le_refl _) _).alloc (by simp) _).alloc (by simp; omega) _).alloc (by simp; omega) _).alloc (by simp; omega) _
  have HI := Lib.hid h0
  have HB1 := Lib.hid h1
  clear s1 h0 h1
  go_enter Tryd.func56, Tryd.ntmps56
  go_wp2_with (go_at_call 45; refine (H45.out _).mono ?_; rintro e w' ⟨rfl, rfl⟩)
  clear hrg hmm
  go_loopg [] (leftOf (mkEs widthsL 0).toArray #[]).size (fun kq wr => ∃ seen c0, Aside0 (RtInv w.heap.size (w.heap.size + 1 + 1) (w.heap.size + 1 + 1 + 1) (w.heap.size + 1 + 1 + 1 + 1) widthsL true (fun _ => none) seen c0 wr) ∧ Aside0 ((leftOf (mkEs widthsL 0).toArray seen).size = kq) ∧ Aside0 (Below w.heap.size w wr))
  case atStart => exact ⟨#[], 5, ⟨HI.out⟩, ⟨rfl⟩, ⟨HB1.out⟩⟩
  case round =>
    clear HI HB1
    obtain ⟨seen, c0, hR, hk, hb⟩ := hrel
    rcases hR.out.next with ⟨hall, hnx⟩ | ⟨i, p, W', hp, hs, hlt, hnx, hen, hg, hr'⟩
    · have hO := hR.out.all hall
      have hnw := (Below.size hb.out)
      have hom : w.heap.size + 1 + 1 < wr.heap.size := by
        obtain ⟨_, es, clk, h1, _⟩ := hO
        exact (Array.getElem?_eq_some_iff.1 h1).1
      have h0 : RtInv w.heap.size (w.heap.size + 1 + 1) wr.heap.size (wr.heap.size + 1) textsL false (fun c => match kv widthsL c with | some z => some (z, true) | none => none) #[] 3
          ((wr.alloc (.map (mkEs textsL 0).toArray 3)).alloc (.mapIter (some wr.heap.size) 3 #[] 3)) := by
        refine ⟨by omega, by omega, by omega, by omega, by decide, ?_, ?_, Nat.le_refl _, (hR.out.b1.alloc _).alloc _, (hR.out.b2.alloc _).alloc _, _, (hO.below ((Below.refl _ wr).alloc (Nat.le_refl _) _)).below ((Below.refl _ _).alloc (Nat.le_refl _) _), fun i p hp => ?_, fun c _ => rfl⟩
        · rw [heap_alloc_old _ _ (by simp)]
          exact World.alloc_heap_new wr _
        · have := World.alloc_heap_new (wr.alloc (.map (mkEs textsL 0).toArray 3)) (.mapIter (some wr.heap.size) 3 #[] 3)
          exact show _ = some (Obj.mapIter (some wr.heap.size) 3 #[] 3) by simpa using this
        · have := List.mem_of_getElem? hp
          simp only [textsL, List.mem_cons, List.not_mem_nil, or_false] at this
          rcases this with rfl | rfl | rfl <;> simp [kv, widthsL]
      have h1 : Below w.heap.size w ((wr.alloc (.map (mkEs textsL 0).toArray 3)).alloc (.mapIter (some wr.heap.size) 3 #[] 3)) := (hb.out.alloc hnw _).alloc (by simp; omega) _
      have HI := Lib.hid h0
      have HB1 := Lib.hid h1
      clear hall hR hO h0 h1 hb hom hnw hk
      have hrg2 := run_range_map (P := Tryd.prog) (wr.alloc (.map (mkEs textsL 0).toArray 3)) 161 5 160 wr.heap.size (mkEs textsL 0).toArray 3 Tryd.underlying161 (World.alloc_heap_new wr _)
      go_wp2_with (go_at_call 95; refine (H95.out _).mono ?_; rintro e w' ⟨rfl, rfl⟩)
      clear hrg2 hnx
      go_loopg [] (leftOf (mkEs textsL 0).toArray #[]).size (fun kq wr2 => ∃ seen c0, Aside0 (RtInv w.heap.size (w.heap.size + 1 + 1) wr.heap.size (wr.heap.size + 1) textsL false (fun c => match kv widthsL c with | some z => some (z, true) | none => none) seen c0 wr2) ∧ Aside0 ((leftOf (mkEs textsL 0).toArray seen).size = kq) ∧ Aside0 (Below w.heap.size w wr2))
      case atStart => exact ⟨#[], 3, ⟨HI.out⟩, ⟨rfl⟩, ⟨HB1.out⟩⟩
      case round =>
        rename_i wr2
        clear HI HB1
        obtain ⟨seen, c0, hR, hk, hb⟩ := hrel
        rcases hR.out.next with ⟨hall, hnx⟩ | ⟨i, p, W', hp, hs, hlt, hnx, hen, hg, hr'⟩
        · have HO := Lib.hid (hR.out.all hall)
          clear hall hR
          go_wp2
          go_ret
          exact ⟨_, rfl, HO.out, hb.out⟩
        · obtain ⟨q, z, rfl⟩ : ∃ q z, p = (q, .int .i64 z) := by
            have := List.mem_of_getElem? hp
            simp only [textsL, List.mem_cons, List.not_mem_nil, or_false] at this
            rcases this with rfl | rfl | rfl <;> exact ⟨_, _, rfl⟩
          have HL := Lib.hid hlt
          have hen' := hen W' rfl
          have hb2 := hR.out.body hp hs hg hr'
          simp only [Bool.false_eq_true, if_false] at hb2
          obtain ⟨W2, hmu, hi2, hbe⟩ := hb2
          have HI2 := Lib.hid hi2
          have HBE := Lib.hid hbe
          clear hp hs hlt hg hr' hen hi2 hbe hR
          go_wp2
          go_roundg (leftOf (mkEs textsL 0).toArray (seen.push i)).size
          case measure => exact hk.out ▸ HL.out
          case rel => exact ⟨_, _, ⟨HI2.out⟩, ⟨rfl⟩, ⟨hb.out.trans HBE.out⟩⟩
    · obtain ⟨q, z, rfl⟩ : ∃ q z, p = (q, .int .i64 z) := by
        have := List.mem_of_getElem? hp
        simp only [widthsL, List.mem_cons, List.not_mem_nil, or_false] at this
        rcases this with rfl | rfl | rfl | rfl | rfl <;> exact ⟨_, _, rfl⟩
      have HL := Lib.hid hlt
      have hen' := hen W' rfl
      have hb2 := hR.out.body hp hs hg hr'
      simp only [if_true] at hb2
      obtain ⟨W2, hmu, hi2, hbe⟩ := hb2
      have HI2 := Lib.hid hi2
      have HBE := Lib.hid hbe
      clear hp hs hlt hg hr' hen hi2 hbe hR
      go_wp2
      go_roundg (leftOf (mkEs widthsL 0).toArray (seen.push i)).size
      case measure => exact hk.out ▸ HL.out
      case rel => exact ⟨_, _, ⟨HI2.out⟩, ⟨rfl⟩, ⟨hb.out.trans HBE.out⟩⟩
end Go.Proofs.YtdogcnadopepmaaDoor.M
end

/- Laid by a program of this session's (hyb.py) over the kit's print: functions and their contracts, some callees' contracts being typed by hand. -/
section
namespace Go.Proofs.YtdogcnadopepmaaDoor.H
open Go.RowKit Go.Proofs.YtdogcnadopepmaaDoorW.PrintWords Go.Proofs.YtdogcnadopepmaaDoorW.PrintLast Go.Proofs.YtdogcnadopepmaaDoorW.PrintMore
attribute [local go_sem] max2_int min2_int max_two min_two max_three min_three max_four min_four   -- for this text's walks alone
set_option linter.unusedVariables false
set_option linter.unusedSimpArgs false

/-! ### method_width_right: function 92 -/
def method_width_right.j0 : Nat → Bool → Int → ByteArray → Option (Int)
  | 0, _, _, _ => none
  | k + 1, x27, x737000, x737001 => if x27 = true then (some 4) else (if x737001.toList = ([] : List UInt8) then (some 0) else (some 1))
def method_width_right.f (k : Nat) (a0 : Int) (a1_0 : Int) (a1_1 : ByteArray) : Option (Int) := if a0 = 0 then (if a1_0 > 1 then (method_width_right.j0 k true a1_0 a1_1) else (if a0 > 0 then (if a0 < 8 then (if 0 ≤ (wrap64 (8 * a0)) then (method_width_right.j0 k ((shr .u64 a1_0 (wrap64 (8 * a0))) != 0) a1_0 a1_1) else (none)) else (method_width_right.j0 k false a1_0 a1_1)) else (method_width_right.j0 k false a1_0 a1_1))) else (if a0 > 0 then (if a0 < 8 then (if 0 ≤ (wrap64 (8 * a0)) then (method_width_right.j0 k ((shr .u64 a1_0 (wrap64 (8 * a0))) != 0) a1_0 a1_1) else (none)) else (method_width_right.j0 k false a1_0 a1_1)) else (method_width_right.j0 k false a1_0 a1_1))
theorem method_width_right.mono_l : ∀ k, (∀ y0 y1 y2, LeO (method_width_right.j0 k y0 y1 y2) (method_width_right.j0 (k + 1) y0 y1 y2))
  | 0 => fun _ _ _ r h => by simp [method_width_right.j0] at h
  | k + 1 => by
    have ih0 := method_width_right.mono_l k
    · intro y0 y1 y2
      unfold method_width_right.j0
      repeat' first
      | (with_reducible exact ih0 _ _ _)
      | (with_reducible exact LeO.refl _)
      | (with_reducible exact LeO.none _)
      | (with_reducible refine LeO.ite ?_ ?_)
      | (with_reducible refine LeO.bind ?_ (fun _ => ?_))
      | exact ih0 _ _ _
      | exact LeO.none _
      | refine LeO.ite ?_ ?_
      | refine LeO.bind ?_ (fun _ => ?_)
theorem method_width_right.mono : ∀ a0 a1 a2 k, LeO (method_width_right.f k a0 a1 a2) (method_width_right.f (k + 1) a0 a1 a2) := by
  intro a0 a1 a2 k
  have ih0 := method_width_right.mono_l k
  unfold method_width_right.f
  repeat' first
      | (with_reducible exact ih0 _ _ _)
      | (with_reducible exact LeO.refl _)
      | (with_reducible exact LeO.none _)
      | (with_reducible refine LeO.ite ?_ ?_)
      | (with_reducible refine LeO.bind ?_ (fun _ => ?_))
      | exact ih0 _ _ _
      | exact LeO.none _
      | refine LeO.ite ?_ ?_
      | refine LeO.bind ?_ (fun _ => ?_)
set_option maxHeartbeats 8000000 in
set_option maxRecDepth 100000 in
theorem method_width_right.calls (k : Nat) (a0 : Int) (a1_0 : Int) (a1_1 : ByteArray) (r : Int) (w : World) (h : method_width_right.f k a0 a1_0 a1_1 = some r) :
    Calls Tryd.prog 92 #[.int .i64 a0, .agg #[.int .u64 a1_0, .string a1_1]] w fun e w' => e = .returned (.int .i64 r) ∧ Below w.heap.size w w' := by
  have hu56 := Tryd.underlying56
  have HB := Aside0.mk (Below.refl w.heap.size w)
  have H : (if a0 = 0 then (if a1_0 > 1 then (method_width_right.j0 k true a1_0 a1_1) else (if a0 > 0 then (if a0 < 8 then (if 0 ≤ (wrap64 (8 * a0)) then (method_width_right.j0 k ((shr .u64 a1_0 (wrap64 (8 * a0))) != 0) a1_0 a1_1) else (none)) else (method_width_right.j0 k false a1_0 a1_1)) else (method_width_right.j0 k false a1_0 a1_1))) else (if a0 > 0 then (if a0 < 8 then (if 0 ≤ (wrap64 (8 * a0)) then (method_width_right.j0 k ((shr .u64 a1_0 (wrap64 (8 * a0))) != 0) a1_0 a1_1) else (none)) else (method_width_right.j0 k false a1_0 a1_1)) else (method_width_right.j0 k false a1_0 a1_1))) = some r := h
  clear h
  have HC3 := Aside0.mk H
  clear H
  go_enter Tryd.func92, Tryd.ntmps92
  go_upto_region 1 with (first | ((with_reducible refine gate_dst (N := 3) rfl ?_); refine box_event ?hg (N := 3) ?hd (cs := #[.int .u64 a1_0, .string a1_1]) (t := 56) ?hr ?_; (case hd => rfl); (case hg => rfl); (case hr => first | (go_simp; done) | (go_simp; rfl)); intro gb736 hg w4 hbox hb; have n0_ := Aside0.mk (below_step (by repeat (first | (with_reducible first | exact HB.out | apply below_alloc | apply pw_below_drewN | apply below_drew1) | exact HB.out)) hb); have n1_ := Aside0.mk (hbox); have n2_ := Aside0.mk ((by rw [hg]; exact (below_size (by repeat (first | (with_reducible first | exact HB.out | apply below_alloc | apply pw_below_drewN | apply below_drew1) | exact HB.out))) : w.heap.size ≤ gb736)); have n3_ := Aside0.mk ((by rw [hg]; exact (below_size (by repeat (first | (with_reducible first | exact HB.out | apply below_alloc | apply pw_below_drewN | apply below_drew1) | exact HB.out))) : w.heap.size ≤ gb736)); clear HB; have HB := n0_; have BK736 := n1_; have GW736 := n2_; have GE736 := n3_; clear n0_ n1_ n2_ n3_; clear hb hbox hg))
  (try simp only [Act.put, List.setIfInBounds_toArray, List.set_cons_zero, List.set_cons_succ])
  go_cut [27] (fun v27 wc => ∃ (kq : Nat) (x27_2 : Bool), v27 = .bool x27_2 ∧ Aside0 (method_width_right.j0 kq x27_2 a1_0 a1_1 = some r) ∧ Aside0 (kq ≤ k) ∧ Aside0 (wc.heap[gb736]? = some (.cells #[.int .u64 a1_0, .string a1_1] 56 (0, 0))) ∧ Aside0 (Below w.heap.size w wc))
  case first =>
    have H := HC3.out
    clear HC3
    by_cases c5 : a0 = 0
    · rw [if_pos c5] at H
      have c5b0 : (a0 == 0) = true := beq_iff_eq.mpr c5
      have c5b1 : (a0 != 0) = false := bne_eq_false_iff_eq.mpr c5
      clear c5
      (first | rw [c5b0] | (simp only [i64_w, i32_w]; rw [c5b0]) | skip)
      by_cases c6 : a1_0 > 1
      · rw [if_pos c6] at H
        have c6b0 : decide (1 < a1_0) = true := decide_eq_true c6
        clear c6
        have H' := Aside0.mk H
        clear H
        have hcz7_0 : w4.cell? ⟨gb736, 0, none⟩ = some (.int .u64 a1_0) := (blk_cell BK736.out 0).trans rfl
        have hcz7_1 : w4.cell? ⟨gb736, 1, none⟩ = some (.string a1_1) := (blk_cell BK736.out 1).trans rfl
        have hfz7_0 := blk_frozen BK736.out 0
        have hfz7_1 := blk_frozen BK736.out 1
        go_wp2
        go_meet
        case rel => exact ⟨_, (true), (by first | rfl | (simp; done) | (simp [*]; done)), H', ⟨by first | omega | exact Nat.le_refl _⟩, ⟨by (with_reducible repeat (first | refine blk_drewN ?_ _ | refine blk_drew ?_ | refine blk_alloc ?_ _)); exact BK736.out⟩, ⟨by repeat (first | (with_reducible first | exact HB.out | apply below_alloc | apply pw_below_drewN | apply below_drew1 | refine below_set ?_ GE736.out) | exact HB.out)⟩⟩
      · rw [if_neg c6] at H
        have c6b0 : decide (1 < a1_0) = false := decide_eq_false c6
        clear c6
        by_cases c8 : a0 > 0
        · rw [if_pos c8] at H
          have c8b0 : decide (0 < a0) = true := decide_eq_true c8
          clear c8
          by_cases c9 : a0 < 8
          · rw [if_pos c9] at H
            have c9b0 : decide (a0 < 8) = true := decide_eq_true c9
            clear c9
            obtain ⟨ji10, hji10⟩ : ∃ j_ : Int, (wrap64 (8 * a0)) = j_ := ⟨_, rfl⟩
            replace H : (if 0 ≤ (ji10) then (method_width_right.j0 k ((shr .u64 a1_0 (ji10)) != 0) a1_0 a1_1) else (none)) = some r := by first | (rw [hji10] at H; exact H) | (simp only [hji10] at H ⊢; exact H)
            have hji10w : (IntKind.i64.wrap (8 * a0)) = ji10 := (i64_w _).trans hji10
            by_cases c11 : 0 ≤ (ji10)
            · rw [if_pos c11] at H
              have c11b0 := eq_true c11
              have c11b1 : decide (0 ≤ (ji10)) = true := decide_eq_true c11
              clear c11
              obtain ⟨ji12, hji12⟩ : ∃ j_ : Int, (shr .u64 a1_0 (ji10)) = j_ := ⟨_, rfl⟩
              replace H : (method_width_right.j0 k ((ji12) != 0) a1_0 a1_1) = some r := by first | (rw [hji12] at H; exact H) | (simp only [hji12] at H ⊢; exact H)
              have hji12_ : (a1_0 / 2 ^ min (ji10).toNat 64) = ji12 := hji12
              have hji12z : (ji10) ≤ 64 → (a1_0 / 2 ^ (ji10).toNat) = ji12 := shr_small hji12
              have H' := Aside0.mk H
              clear H
              have hcz13_0 : w4.cell? ⟨gb736, 0, none⟩ = some (.int .u64 a1_0) := (blk_cell BK736.out 0).trans rfl
              have hcz13_1 : w4.cell? ⟨gb736, 1, none⟩ = some (.string a1_1) := (blk_cell BK736.out 1).trans rfl
              have hfz13_0 := blk_frozen BK736.out 0
              have hfz13_1 := blk_frozen BK736.out 1
              go_wp2
              go_meet
              case rel => exact ⟨_, (((ji12) != 0)), (by first | rfl | (simp; done) | (simp only [← hji12] <;> (first | rfl | simp)) | (simp [*]; done)), H', ⟨by first | omega | exact Nat.le_refl _⟩, ⟨by (with_reducible repeat (first | refine blk_drewN ?_ _ | refine blk_drew ?_ | refine blk_alloc ?_ _)); exact BK736.out⟩, ⟨by repeat (first | (with_reducible first | exact HB.out | apply below_alloc | apply pw_below_drewN | apply below_drew1 | refine below_set ?_ GE736.out) | exact HB.out)⟩⟩
            · rw [if_neg c11] at H
              exact absurd H (by simp)
          · rw [if_neg c9] at H
            have c9b0 : decide (a0 < 8) = false := decide_eq_false c9
            clear c9
            have H' := Aside0.mk H
            clear H
            have hcz14_0 : w4.cell? ⟨gb736, 0, none⟩ = some (.int .u64 a1_0) := (blk_cell BK736.out 0).trans rfl
            have hcz14_1 : w4.cell? ⟨gb736, 1, none⟩ = some (.string a1_1) := (blk_cell BK736.out 1).trans rfl
            have hfz14_0 := blk_frozen BK736.out 0
            have hfz14_1 := blk_frozen BK736.out 1
            go_wp2
            go_meet
            case rel => exact ⟨_, (false), (by first | rfl | (simp; done) | (simp [*]; done)), H', ⟨by first | omega | exact Nat.le_refl _⟩, ⟨by (with_reducible repeat (first | refine blk_drewN ?_ _ | refine blk_drew ?_ | refine blk_alloc ?_ _)); exact BK736.out⟩, ⟨by repeat (first | (with_reducible first | exact HB.out | apply below_alloc | apply pw_below_drewN | apply below_drew1 | refine below_set ?_ GE736.out) | exact HB.out)⟩⟩
        · rw [if_neg c8] at H
          have c8b0 : decide (0 < a0) = false := decide_eq_false c8
          clear c8
          have H' := Aside0.mk H
          clear H
          have hcz15_0 : w4.cell? ⟨gb736, 0, none⟩ = some (.int .u64 a1_0) := (blk_cell BK736.out 0).trans rfl
          have hcz15_1 : w4.cell? ⟨gb736, 1, none⟩ = some (.string a1_1) := (blk_cell BK736.out 1).trans rfl
          have hfz15_0 := blk_frozen BK736.out 0
          have hfz15_1 := blk_frozen BK736.out 1
          go_wp2
          go_meet
          case rel => exact ⟨_, (false), (by first | rfl | (simp; done) | (simp [*]; done)), H', ⟨by first | omega | exact Nat.le_refl _⟩, ⟨by (with_reducible repeat (first | refine blk_drewN ?_ _ | refine blk_drew ?_ | refine blk_alloc ?_ _)); exact BK736.out⟩, ⟨by repeat (first | (with_reducible first | exact HB.out | apply below_alloc | apply pw_below_drewN | apply below_drew1 | refine below_set ?_ GE736.out) | exact HB.out)⟩⟩
    · rw [if_neg c5] at H
      have c5b0 : (a0 == 0) = false := beq_eq_false_iff_ne.mpr c5
      have c5b1 : (a0 != 0) = true := bne_iff_ne.mpr c5
      (first | rw [c5b0] | (simp only [i64_w, i32_w]; rw [c5b0]) | skip)
      by_cases c16 : a0 > 0
      · rw [if_pos c16] at H
        have c16b0 : decide (0 < a0) = true := decide_eq_true c16
        clear c16
        by_cases c17 : a0 < 8
        · rw [if_pos c17] at H
          have c17b0 : decide (a0 < 8) = true := decide_eq_true c17
          clear c17
          obtain ⟨ji18, hji18⟩ : ∃ j_ : Int, (wrap64 (8 * a0)) = j_ := ⟨_, rfl⟩
          replace H : (if 0 ≤ (ji18) then (method_width_right.j0 k ((shr .u64 a1_0 (ji18)) != 0) a1_0 a1_1) else (none)) = some r := by first | (rw [hji18] at H; exact H) | (simp only [hji18] at H ⊢; exact H)
          have hji18w : (IntKind.i64.wrap (8 * a0)) = ji18 := (i64_w _).trans hji18
          by_cases c19 : 0 ≤ (ji18)
          · rw [if_pos c19] at H
            have c19b0 := eq_true c19
            have c19b1 : decide (0 ≤ (ji18)) = true := decide_eq_true c19
            clear c19
            obtain ⟨ji20, hji20⟩ : ∃ j_ : Int, (shr .u64 a1_0 (ji18)) = j_ := ⟨_, rfl⟩
            replace H : (method_width_right.j0 k ((ji20) != 0) a1_0 a1_1) = some r := by first | (rw [hji20] at H; exact H) | (simp only [hji20] at H ⊢; exact H)
            have hji20_ : (a1_0 / 2 ^ min (ji18).toNat 64) = ji20 := hji20
            have hji20z : (ji18) ≤ 64 → (a1_0 / 2 ^ (ji18).toNat) = ji20 := shr_small hji20
            have H' := Aside0.mk H
            clear H
            have hcz21_0 : w4.cell? ⟨gb736, 0, none⟩ = some (.int .u64 a1_0) := (blk_cell BK736.out 0).trans rfl
            have hcz21_1 : w4.cell? ⟨gb736, 1, none⟩ = some (.string a1_1) := (blk_cell BK736.out 1).trans rfl
            have hfz21_0 := blk_frozen BK736.out 0
            have hfz21_1 := blk_frozen BK736.out 1
            go_wp2
            go_meet
            case rel => exact ⟨_, (((ji20) != 0)), (by first | rfl | (simp; done) | (simp only [← hji20] <;> (first | rfl | simp)) | (simp [*]; done)), H', ⟨by first | omega | exact Nat.le_refl _⟩, ⟨by (with_reducible repeat (first | refine blk_drewN ?_ _ | refine blk_drew ?_ | refine blk_alloc ?_ _)); exact BK736.out⟩, ⟨by repeat (first | (with_reducible first | exact HB.out | apply below_alloc | apply pw_below_drewN | apply below_drew1 | refine below_set ?_ GE736.out) | exact HB.out)⟩⟩
          · rw [if_neg c19] at H
            exact absurd H (by simp)
        · rw [if_neg c17] at H
          have c17b0 : decide (a0 < 8) = false := decide_eq_false c17
          clear c17
          have H' := Aside0.mk H
          clear H
          go_wp2
          go_meet
          case rel => exact ⟨_, (false), (by first | rfl | (simp; done) | (simp [*]; done)), H', ⟨by first | omega | exact Nat.le_refl _⟩, ⟨by (with_reducible repeat (first | refine blk_drewN ?_ _ | refine blk_drew ?_ | refine blk_alloc ?_ _)); exact BK736.out⟩, ⟨by repeat (first | (with_reducible first | exact HB.out | apply below_alloc | apply pw_below_drewN | apply below_drew1 | refine below_set ?_ GE736.out) | exact HB.out)⟩⟩
      · rw [if_neg c16] at H
        have c16b0 : decide (0 < a0) = false := decide_eq_false c16
        clear c16
        have H' := Aside0.mk H
        clear H
        go_wp2
        go_meet
        case rel => exact ⟨_, (false), (by first | rfl | (simp; done) | (simp [*]; done)), H', ⟨by first | omega | exact Nat.le_refl _⟩, ⟨by (with_reducible repeat (first | refine blk_drewN ?_ _ | refine blk_drew ?_ | refine blk_alloc ?_ _)); exact BK736.out⟩, ⟨by repeat (first | (with_reducible first | exact HB.out | apply below_alloc | apply pw_below_drewN | apply below_drew1 | refine below_set ?_ GE736.out) | exact HB.out)⟩⟩
  case rest =>
    clear HC3
    try clear c1
    try clear p2
    try clear c5
    try clear c5b0
    try clear c5b1
    try clear c6
    try clear c6b0
    try clear p6
    try clear c8
    try clear c8b0
    try clear c9
    try clear c9b0
    try clear c11
    try clear c11b0
    try clear c11b1
    try clear c16
    try clear c16b0
    try clear c17
    try clear c17b0
    try clear c19
    try clear c19b0
    try clear c19b1
    try clear hcz13_0
    try clear hcz13_1
    try clear hcz14_0
    try clear hcz14_1
    try clear hcz15_0
    try clear hcz15_1
    try clear hcz21_0
    try clear hcz21_1
    try clear hcz7_0
    try clear hcz7_1
    try clear hfz13_0
    try clear hfz13_1
    try clear hfz14_0
    try clear hfz14_1
    try clear hfz15_0
    try clear hfz15_1
    try clear hfz21_0
    try clear hfz21_1
    try clear hfz7_0
    try clear hfz7_1
    obtain ⟨kq, x27_2, rfl, HA, HJ2, BK736, HB⟩ := hcut
    cases kq with
    | zero => exact absurd HA.out (by simp [method_width_right.j0])
    | succ kj2 =>
      have H := HA.out
      clear HA
      simp only [method_width_right.j0] at H
      by_cases c22 : x27_2 = true
      · subst c22
        have H1 : (some 4) = some r := by rw [if_pos rfl] at H; exact H
        clear H
        have H := H1
        clear H1
        obtain rfl := Option.some.inj H
        go_wp2
        go_ret
        exact ⟨by first | rfl | (simp [errW_none, errW_some] <;> rfl) | (simp [*, errW_none, errW_some] <;> rfl), by repeat (first | (with_reducible first | exact HB.out | apply below_alloc | apply pw_below_drewN | apply below_drew1 | refine below_set ?_ GE736.out) | exact HB.out)⟩
      · replace c22 := Bool.eq_false_iff.mpr c22
        subst c22
        have H1 : (if a1_1.toList = ([] : List UInt8) then (some 0) else (some 1)) = some r := by rw [if_neg (show ¬ (false = true) by decide)] at H; exact H
        clear H
        have H := H1
        clear H1
        by_cases c23 : a1_1.toList = ([] : List UInt8)
        · rw [if_pos c23] at H
          have c23b0 : (a1_1.toList == ([] : List UInt8)) = true := beq_iff_eq.mpr c23
          have c23b1 : (a1_1.toList != ([] : List UInt8)) = false := bne_eq_false_iff_eq.mpr c23
          clear c23
          obtain rfl := Option.some.inj H
          have hcz24_0 : wc.cell? ⟨gb736, 0, none⟩ = some (.int .u64 a1_0) := (blk_cell BK736.out 0).trans rfl
          have hcz24_1 : wc.cell? ⟨gb736, 1, none⟩ = some (.string a1_1) := (blk_cell BK736.out 1).trans rfl
          have hfz24_0 := blk_frozen BK736.out 0
          have hfz24_1 := blk_frozen BK736.out 1
          go_wp2
          go_ret
          exact ⟨by first | rfl | (simp [errW_none, errW_some] <;> rfl) | (simp [*, errW_none, errW_some] <;> rfl), by repeat (first | (with_reducible first | exact HB.out | apply below_alloc | apply pw_below_drewN | apply below_drew1 | refine below_set ?_ GE736.out) | exact HB.out)⟩
        · rw [if_neg c23] at H
          have c23b0 : (a1_1.toList == ([] : List UInt8)) = false := beq_eq_false_iff_ne.mpr c23
          have c23b1 : (a1_1.toList != ([] : List UInt8)) = true := bne_iff_ne.mpr c23
          obtain rfl := Option.some.inj H
          have hcz25_0 : wc.cell? ⟨gb736, 0, none⟩ = some (.int .u64 a1_0) := (blk_cell BK736.out 0).trans rfl
          have hcz25_1 : wc.cell? ⟨gb736, 1, none⟩ = some (.string a1_1) := (blk_cell BK736.out 1).trans rfl
          have hfz25_0 := blk_frozen BK736.out 0
          have hfz25_1 := blk_frozen BK736.out 1
          go_wp2
          go_ret
          exact ⟨by first | rfl | (simp [errW_none, errW_some] <;> rfl) | (simp [*, errW_none, errW_some] <;> rfl), by repeat (first | (with_reducible first | exact HB.out | apply below_alloc | apply pw_below_drewN | apply below_drew1 | refine below_set ?_ GE736.out) | exact HB.out)⟩

end Go.Proofs.YtdogcnadopepmaaDoor.H
end

/- Laid by a program of this session's (hyb.py) over the kit's print: functions and their contracts, some callees' contracts being typed by hand. -/
section
namespace Go.Proofs.YtdogcnadopepmaaDoor.H
open Go.RowKit Go.Proofs.YtdogcnadopepmaaDoor.M Go.Proofs.YtdogcnadopepmaaDoorW.PrintWords Go.Proofs.YtdogcnadopepmaaDoorW.PrintLast Go.Proofs.YtdogcnadopepmaaDoorW.PrintMore
attribute [local go_sem] max2_int min2_int max_two min_two max_three min_three max_four min_four   -- for this text's walks alone
set_option linter.unusedVariables false
set_option linter.unusedSimpArgs false

/-! ### method_wide_right: function 93 -/
def method_wide_right.j0 : Nat → Int → Bool → Int → ByteArray → Option (Int)
  | 0, _, _, _, _ => none
  | k + 1, x0, x8, x738000, x738001 => if x8 = true then (some 4) else (if x738000 = 0 then (if x0 < 0 then ((table_Take.f k x738001).bind fun bt738 => (if bt738.2.2 = 0 then (if bt738.2.1.toList = ([] : List UInt8) then (if bt738.1.toList = ([] : List UInt8) then (some 3) else (some 0)) else (some 3)) else (some 3))) else (some 0)) else (some 1))
def method_wide_right.f (k : Nat) (a0 : Int) (a1_0 : Int) (a1_1 : ByteArray) : Option (Int) := if a0 ≥ 0 then (method_wide_right.j0 k a0 (decide ((a1_1.size : Int) > a0)) a1_0 a1_1) else (method_wide_right.j0 k a0 false a1_0 a1_1)
theorem method_wide_right.mono_l : ∀ k, (∀ y0 y1 y2 y3, LeO (method_wide_right.j0 k y0 y1 y2 y3) (method_wide_right.j0 (k + 1) y0 y1 y2 y3))
  | 0 => fun _ _ _ _ r h => by simp [method_wide_right.j0] at h
  | k + 1 => by
    have ih0 := method_wide_right.mono_l k
    · intro y0 y1 y2 y3
      unfold method_wide_right.j0
      repeat' first
      | (with_reducible exact ih0 _ _ _ _)
      | (with_reducible exact table_Take.mono _ _)
      | (with_reducible exact LeO.refl _)
      | (with_reducible exact LeO.none _)
      | (with_reducible refine LeO.ite ?_ ?_)
      | (with_reducible refine LeO.bind ?_ (fun _ => ?_))
      | exact ih0 _ _ _ _
      | exact table_Take.mono _ _
      | exact LeO.none _
      | refine LeO.ite ?_ ?_
      | refine LeO.bind ?_ (fun _ => ?_)
theorem method_wide_right.mono : ∀ a0 a1 a2 k, LeO (method_wide_right.f k a0 a1 a2) (method_wide_right.f (k + 1) a0 a1 a2) := by
  intro a0 a1 a2 k
  have ih0 := method_wide_right.mono_l k
  unfold method_wide_right.f
  repeat' first
      | (with_reducible exact ih0 _ _ _ _)
      | (with_reducible exact table_Take.mono _ _)
      | (with_reducible exact LeO.refl _)
      | (with_reducible exact LeO.none _)
      | (with_reducible refine LeO.ite ?_ ?_)
      | (with_reducible refine LeO.bind ?_ (fun _ => ?_))
      | exact ih0 _ _ _ _
      | exact table_Take.mono _ _
      | exact LeO.none _
      | refine LeO.ite ?_ ?_
      | refine LeO.bind ?_ (fun _ => ?_)
set_option maxHeartbeats 8000000 in
set_option maxRecDepth 100000 in
theorem method_wide_right.calls (k : Nat) (a0 : Int) (a1_0 : Int) (a1_1 : ByteArray) (r : Int) (w : World) (h : method_wide_right.f k a0 a1_0 a1_1 = some r) (hWd : Wd w := by first | (with_reducible assumption) | exact hWd.drewN _ | exact Wd.up hWd (by repeat (first | (with_reducible first | exact HB.out | apply below_alloc | apply pw_below_drewN | apply below_drew1) | exact HB.out))) :
    Calls Tryd.prog 93 #[.int .i64 a0, .agg #[.int .u64 a1_0, .string a1_1]] w fun e w' => e = .returned (.int .i64 r) ∧ Below w.heap.size w w' := by
  have hu56 := Tryd.underlying56
  have HB := Aside0.mk (Below.refl w.heap.size w)
  have H : (if a0 ≥ 0 then (method_wide_right.j0 k a0 (decide ((a1_1.size : Int) > a0)) a1_0 a1_1) else (method_wide_right.j0 k a0 false a1_0 a1_1)) = some r := h
  clear h
  have HC3 := Aside0.mk H
  clear H
  go_enter Tryd.func93, Tryd.ntmps93
  go_upto_region 1 with (first | ((with_reducible refine gate_dst (N := 3) rfl ?_); (try (refine gate_guard (by rfl) ?_; dsimp only)); refine box_event ?hg (N := 3) ?hd (cs := #[.int .u64 a1_0, .string a1_1]) (t := 56) ?hr ?_; (case hd => rfl); (case hg => rfl); (case hr => first | (go_simp; done) | (go_simp; rfl)); intro gb737 hg w4 hbox hb; have n0_ := Aside0.mk (below_step (by repeat (first | (with_reducible first | exact HB.out | apply below_alloc | apply pw_below_drewN | apply below_drew1) | exact HB.out)) hb); have n1_ := Aside0.mk (hbox); have n2_ := Aside0.mk ((by rw [hg]; exact (below_size (by repeat (first | (with_reducible first | exact HB.out | apply below_alloc | apply pw_below_drewN | apply below_drew1) | exact HB.out))) : w.heap.size ≤ gb737)); have n3_ := Aside0.mk ((by rw [hg]; exact (below_size (by repeat (first | (with_reducible first | exact HB.out | apply below_alloc | apply pw_below_drewN | apply below_drew1) | exact HB.out))) : w.heap.size ≤ gb737)); clear HB; have HB := n0_; have BK737 := n1_; have GW737 := n2_; have GE737 := n3_; clear n0_ n1_ n2_ n3_; clear hb hbox hg))
  (try simp only [Act.put, List.setIfInBounds_toArray, List.set_cons_zero, List.set_cons_succ])
  go_cut [8] (fun v8 wc => ∃ (kq : Nat) (x8_2 : Bool), v8 = .bool x8_2 ∧ Aside0 (method_wide_right.j0 kq a0 x8_2 a1_0 a1_1 = some r) ∧ Aside0 (kq ≤ k) ∧ Aside0 (wc.heap[gb737]? = some (.cells #[.int .u64 a1_0, .string a1_1] 56 (0, 0))) ∧ Aside0 (Below w.heap.size w wc))
  case first =>
    have H := HC3.out
    clear HC3
    by_cases c5 : a0 ≥ 0
    · rw [if_pos c5] at H
      have c5b0 : decide (0 ≤ a0) = true := decide_eq_true c5
      clear c5
      (first | rw [c5b0] | (simp only [i64_w, i32_w]; rw [c5b0]) | skip)
      have H' := Aside0.mk H
      clear H
      have hcz6_0 : w4.cell? ⟨gb737, 0, none⟩ = some (.int .u64 a1_0) := (blk_cell BK737.out 0).trans rfl
      have hcz6_1 : w4.cell? ⟨gb737, 1, none⟩ = some (.string a1_1) := (blk_cell BK737.out 1).trans rfl
      have hfz6_0 := blk_frozen BK737.out 0
      have hfz6_1 := blk_frozen BK737.out 1
      go_wp2
      go_meet
      case rel => exact ⟨_, (decide ((a1_1.size : Int) > a0)), (by first | rfl | (simp; done) | (simp [*]; done)), H', ⟨by first | omega | exact Nat.le_refl _⟩, ⟨by (with_reducible repeat (first | refine blk_drewN ?_ _ | refine blk_drew ?_ | refine blk_alloc ?_ _)); exact BK737.out⟩, ⟨by repeat (first | (with_reducible first | exact HB.out | apply below_alloc | apply pw_below_drewN | apply below_drew1 | refine below_set ?_ GE737.out) | exact HB.out)⟩⟩
    · rw [if_neg c5] at H
      have c5b0 : decide (0 ≤ a0) = false := decide_eq_false c5
      clear c5
      (first | rw [c5b0] | (simp only [i64_w, i32_w]; rw [c5b0]) | skip)
      have H' := Aside0.mk H
      clear H
      go_wp2
      go_meet
      case rel => exact ⟨_, (false), (by first | rfl | (simp; done) | (simp [*]; done)), H', ⟨by first | omega | exact Nat.le_refl _⟩, ⟨by (with_reducible repeat (first | refine blk_drewN ?_ _ | refine blk_drew ?_ | refine blk_alloc ?_ _)); exact BK737.out⟩, ⟨by repeat (first | (with_reducible first | exact HB.out | apply below_alloc | apply pw_below_drewN | apply below_drew1 | refine below_set ?_ GE737.out) | exact HB.out)⟩⟩
  case rest =>
    clear HC3
    try clear p2
    try clear c5
    try clear c5b0
    try clear hcz6_0
    try clear hcz6_1
    try clear hfz6_0
    try clear hfz6_1
    obtain ⟨kq, x8_2, rfl, HA, HJ2, BK737, HB⟩ := hcut
    cases kq with
    | zero => exact absurd HA.out (by simp [method_wide_right.j0])
    | succ kj2 =>
      have H := HA.out
      clear HA
      simp only [method_wide_right.j0] at H
      by_cases c7 : x8_2 = true
      · subst c7
        have H1 : (some 4) = some r := by rw [if_pos rfl] at H; exact H
        clear H
        have H := H1
        clear H1
        obtain rfl := Option.some.inj H
        go_wp2
        go_ret
        exact ⟨by first | rfl | (simp [errW_none, errW_some] <;> rfl) | (simp [*, errW_none, errW_some] <;> rfl), by repeat (first | (with_reducible first | exact HB.out | apply below_alloc | apply pw_below_drewN | apply below_drew1 | refine below_set ?_ GE737.out) | exact HB.out)⟩
      · replace c7 := Bool.eq_false_iff.mpr c7
        subst c7
        have H1 : (if a1_0 = 0 then (if a0 < 0 then ((table_Take.f kj2 a1_1).bind fun bt738 => (if bt738.2.2 = 0 then (if bt738.2.1.toList = ([] : List UInt8) then (if bt738.1.toList = ([] : List UInt8) then (some 3) else (some 0)) else (some 3)) else (some 3))) else (some 0)) else (some 1)) = some r := by rw [if_neg (show ¬ (false = true) by decide)] at H; exact H
        clear H
        have H := H1
        clear H1
        by_cases c8 : a1_0 = 0
        · rw [if_pos c8] at H
          have c8b0 : (a1_0 == 0) = true := beq_iff_eq.mpr c8
          have c8b1 : (a1_0 != 0) = false := bne_eq_false_iff_eq.mpr c8
          clear c8
          by_cases c9 : a0 < 0
          · rw [if_pos c9] at H
            have c9b0 : decide (a0 < 0) = true := decide_eq_true c9
            clear c9
            replace H := Option.bind_eq_some_iff.mp H
            obtain ⟨⟨t738, t739, t740⟩, A100, H⟩ := H
            replace H : (if t740 = 0 then (if t739.toList = ([] : List UInt8) then (if t738.toList = ([] : List UInt8) then (some 3) else (some 0)) else (some 3)) else (some 3)) = some r := H
            have A10 := Aside0.mk A100
            clear A100
            by_cases c11 : t740 = 0
            · rw [if_pos c11] at H
              have c11b0 : (t740 == 0) = true := beq_iff_eq.mpr c11
              have c11b1 : (t740 != 0) = false := bne_eq_false_iff_eq.mpr c11
              clear c11
              by_cases c12 : t739.toList = ([] : List UInt8)
              · rw [if_pos c12] at H
                have c12b0 : (t739.toList == ([] : List UInt8)) = true := beq_iff_eq.mpr c12
                have c12b1 : (t739.toList != ([] : List UInt8)) = false := bne_eq_false_iff_eq.mpr c12
                clear c12
                by_cases c13 : t738.toList = ([] : List UInt8)
                · rw [if_pos c13] at H
                  have c13b0 : (t738.toList == ([] : List UInt8)) = true := beq_iff_eq.mpr c13
                  have c13b1 : (t738.toList != ([] : List UInt8)) = false := bne_eq_false_iff_eq.mpr c13
                  clear c13
                  obtain rfl := Option.some.inj H
                  have hcz14_0 : wc.cell? ⟨gb737, 0, none⟩ = some (.int .u64 a1_0) := (blk_cell BK737.out 0).trans rfl
                  have hcz14_1 : wc.cell? ⟨gb737, 1, none⟩ = some (.string a1_1) := (blk_cell BK737.out 1).trans rfl
                  have hfz14_0 := blk_frozen BK737.out 0
                  have hfz14_1 := blk_frozen BK737.out 1
                  go_wp2_with (first | ((with_reducible refine gate_callee (f := 122) rfl ?_); refine goesL_ (some 28) rfl rfl Tryd.func122 (by kernel_rfl) rfl #[.string a1_1] rfl (by (try simp only [List.map_toArray, List.map_cons, List.map_nil]); first | done | rfl | (simp only [List.length_drop, List.length_take]; rfl)) ?_; (with_reducible refine (table_Take.calls kj2 a1_1 t738 t739 t740 _ A10.out).mono ?_); rintro e w15 ⟨rfl, hb⟩; refine ⟨_, rfl, ?_⟩; have n0_ := Aside0.mk (blk_below (g := gb737) (o := .cells #[.int .u64 a1_0, .string a1_1] 56 (0, 0)) (by (with_reducible repeat (first | refine blk_drewN ?_ _ | refine blk_drew ?_ | refine blk_alloc ?_ _)); exact BK737.out) hb); have n1_ := Aside0.mk (below_step (by repeat (first | (with_reducible first | exact HB.out | apply below_alloc | apply pw_below_drewN | apply below_drew1 | refine below_set ?_ GE737.out) | exact HB.out)) hb); clear BK737; clear HB; have BK737 := n0_; have HB := n1_; clear n0_ n1_; (try clear hb); (try clear hb2); (try clear hk); (try clear hi)))
                  go_ret
                  exact ⟨by first | rfl | (simp [errW_none, errW_some] <;> rfl) | (simp [*, errW_none, errW_some] <;> rfl), by repeat (first | (with_reducible first | exact HB.out | apply below_alloc | apply pw_below_drewN | apply below_drew1 | refine below_set ?_ GE737.out) | exact HB.out)⟩
                · rw [if_neg c13] at H
                  have c13b0 : (t738.toList == ([] : List UInt8)) = false := beq_eq_false_iff_ne.mpr c13
                  have c13b1 : (t738.toList != ([] : List UInt8)) = true := bne_iff_ne.mpr c13
                  obtain rfl := Option.some.inj H
                  have hcz16_0 : wc.cell? ⟨gb737, 0, none⟩ = some (.int .u64 a1_0) := (blk_cell BK737.out 0).trans rfl
                  have hcz16_1 : wc.cell? ⟨gb737, 1, none⟩ = some (.string a1_1) := (blk_cell BK737.out 1).trans rfl
                  have hfz16_0 := blk_frozen BK737.out 0
                  have hfz16_1 := blk_frozen BK737.out 1
                  go_wp2_with (first | ((with_reducible refine gate_callee (f := 122) rfl ?_); refine goesL_ (some 28) rfl rfl Tryd.func122 (by kernel_rfl) rfl #[.string a1_1] rfl (by (try simp only [List.map_toArray, List.map_cons, List.map_nil]); first | done | rfl | (simp only [List.length_drop, List.length_take]; rfl)) ?_; (with_reducible refine (table_Take.calls kj2 a1_1 t738 t739 t740 _ A10.out).mono ?_); rintro e w17 ⟨rfl, hb⟩; refine ⟨_, rfl, ?_⟩; have n0_ := Aside0.mk (blk_below (g := gb737) (o := .cells #[.int .u64 a1_0, .string a1_1] 56 (0, 0)) (by (with_reducible repeat (first | refine blk_drewN ?_ _ | refine blk_drew ?_ | refine blk_alloc ?_ _)); exact BK737.out) hb); have n1_ := Aside0.mk (below_step (by repeat (first | (with_reducible first | exact HB.out | apply below_alloc | apply pw_below_drewN | apply below_drew1 | refine below_set ?_ GE737.out) | exact HB.out)) hb); clear BK737; clear HB; have BK737 := n0_; have HB := n1_; clear n0_ n1_; (try clear hb); (try clear hb2); (try clear hk); (try clear hi)))
                  go_ret
                  exact ⟨by first | rfl | (simp [errW_none, errW_some] <;> rfl) | (simp [*, errW_none, errW_some] <;> rfl), by repeat (first | (with_reducible first | exact HB.out | apply below_alloc | apply pw_below_drewN | apply below_drew1 | refine below_set ?_ GE737.out) | exact HB.out)⟩
              · rw [if_neg c12] at H
                have c12b0 : (t739.toList == ([] : List UInt8)) = false := beq_eq_false_iff_ne.mpr c12
                have c12b1 : (t739.toList != ([] : List UInt8)) = true := bne_iff_ne.mpr c12
                obtain rfl := Option.some.inj H
                have hcz18_0 : wc.cell? ⟨gb737, 0, none⟩ = some (.int .u64 a1_0) := (blk_cell BK737.out 0).trans rfl
                have hcz18_1 : wc.cell? ⟨gb737, 1, none⟩ = some (.string a1_1) := (blk_cell BK737.out 1).trans rfl
                have hfz18_0 := blk_frozen BK737.out 0
                have hfz18_1 := blk_frozen BK737.out 1
                go_wp2_with (first | ((with_reducible refine gate_callee (f := 122) rfl ?_); refine goesL_ (some 28) rfl rfl Tryd.func122 (by kernel_rfl) rfl #[.string a1_1] rfl (by (try simp only [List.map_toArray, List.map_cons, List.map_nil]); first | done | rfl | (simp only [List.length_drop, List.length_take]; rfl)) ?_; (with_reducible refine (table_Take.calls kj2 a1_1 t738 t739 t740 _ A10.out).mono ?_); rintro e w19 ⟨rfl, hb⟩; refine ⟨_, rfl, ?_⟩; have n0_ := Aside0.mk (blk_below (g := gb737) (o := .cells #[.int .u64 a1_0, .string a1_1] 56 (0, 0)) (by (with_reducible repeat (first | refine blk_drewN ?_ _ | refine blk_drew ?_ | refine blk_alloc ?_ _)); exact BK737.out) hb); have n1_ := Aside0.mk (below_step (by repeat (first | (with_reducible first | exact HB.out | apply below_alloc | apply pw_below_drewN | apply below_drew1 | refine below_set ?_ GE737.out) | exact HB.out)) hb); clear BK737; clear HB; have BK737 := n0_; have HB := n1_; clear n0_ n1_; (try clear hb); (try clear hb2); (try clear hk); (try clear hi)))
                go_ret
                exact ⟨by first | rfl | (simp [errW_none, errW_some] <;> rfl) | (simp [*, errW_none, errW_some] <;> rfl), by repeat (first | (with_reducible first | exact HB.out | apply below_alloc | apply pw_below_drewN | apply below_drew1 | refine below_set ?_ GE737.out) | exact HB.out)⟩
            · rw [if_neg c11] at H
              have c11b0 : (t740 == 0) = false := beq_eq_false_iff_ne.mpr c11
              have c11b1 : (t740 != 0) = true := bne_iff_ne.mpr c11
              obtain rfl := Option.some.inj H
              have hcz20_0 : wc.cell? ⟨gb737, 0, none⟩ = some (.int .u64 a1_0) := (blk_cell BK737.out 0).trans rfl
              have hcz20_1 : wc.cell? ⟨gb737, 1, none⟩ = some (.string a1_1) := (blk_cell BK737.out 1).trans rfl
              have hfz20_0 := blk_frozen BK737.out 0
              have hfz20_1 := blk_frozen BK737.out 1
              go_wp2_with (first | ((with_reducible refine gate_callee (f := 122) rfl ?_); refine goesL_ (some 28) rfl rfl Tryd.func122 (by kernel_rfl) rfl #[.string a1_1] rfl (by (try simp only [List.map_toArray, List.map_cons, List.map_nil]); first | done | rfl | (simp only [List.length_drop, List.length_take]; rfl)) ?_; (with_reducible refine (table_Take.calls kj2 a1_1 t738 t739 t740 _ A10.out).mono ?_); rintro e w21 ⟨rfl, hb⟩; refine ⟨_, rfl, ?_⟩; have n0_ := Aside0.mk (blk_below (g := gb737) (o := .cells #[.int .u64 a1_0, .string a1_1] 56 (0, 0)) (by (with_reducible repeat (first | refine blk_drewN ?_ _ | refine blk_drew ?_ | refine blk_alloc ?_ _)); exact BK737.out) hb); have n1_ := Aside0.mk (below_step (by repeat (first | (with_reducible first | exact HB.out | apply below_alloc | apply pw_below_drewN | apply below_drew1 | refine below_set ?_ GE737.out) | exact HB.out)) hb); clear BK737; clear HB; have BK737 := n0_; have HB := n1_; clear n0_ n1_; (try clear hb); (try clear hb2); (try clear hk); (try clear hi)))
              go_ret
              exact ⟨by first | rfl | (simp [errW_none, errW_some] <;> rfl) | (simp [*, errW_none, errW_some] <;> rfl), by repeat (first | (with_reducible first | exact HB.out | apply below_alloc | apply pw_below_drewN | apply below_drew1 | refine below_set ?_ GE737.out) | exact HB.out)⟩
          · rw [if_neg c9] at H
            have c9b0 : decide (a0 < 0) = false := decide_eq_false c9
            clear c9
            obtain rfl := Option.some.inj H
            have hcz22_0 : wc.cell? ⟨gb737, 0, none⟩ = some (.int .u64 a1_0) := (blk_cell BK737.out 0).trans rfl
            have hcz22_1 : wc.cell? ⟨gb737, 1, none⟩ = some (.string a1_1) := (blk_cell BK737.out 1).trans rfl
            have hfz22_0 := blk_frozen BK737.out 0
            have hfz22_1 := blk_frozen BK737.out 1
            go_wp2
            go_ret
            exact ⟨by first | rfl | (simp [errW_none, errW_some] <;> rfl) | (simp [*, errW_none, errW_some] <;> rfl), by repeat (first | (with_reducible first | exact HB.out | apply below_alloc | apply pw_below_drewN | apply below_drew1 | refine below_set ?_ GE737.out) | exact HB.out)⟩
        · rw [if_neg c8] at H
          have c8b0 : (a1_0 == 0) = false := beq_eq_false_iff_ne.mpr c8
          have c8b1 : (a1_0 != 0) = true := bne_iff_ne.mpr c8
          obtain rfl := Option.some.inj H
          have hcz23_0 : wc.cell? ⟨gb737, 0, none⟩ = some (.int .u64 a1_0) := (blk_cell BK737.out 0).trans rfl
          have hcz23_1 : wc.cell? ⟨gb737, 1, none⟩ = some (.string a1_1) := (blk_cell BK737.out 1).trans rfl
          have hfz23_0 := blk_frozen BK737.out 0
          have hfz23_1 := blk_frozen BK737.out 1
          go_wp2
          go_ret
          exact ⟨by first | rfl | (simp [errW_none, errW_some] <;> rfl) | (simp [*, errW_none, errW_some] <;> rfl), by repeat (first | (with_reducible first | exact HB.out | apply below_alloc | apply pw_below_drewN | apply below_drew1 | refine below_set ?_ GE737.out) | exact HB.out)⟩

end Go.Proofs.YtdogcnadopepmaaDoor.H
end

/- Laid by a program of this session's (hyb.py) over the kit's print: functions and their contracts, some callees' contracts being typed by hand. -/
section
namespace Go.Proofs.YtdogcnadopepmaaDoor.H
open Go.RowKit Go.Proofs.YtdogcnadopepmaaDoorW.PrintWords Go.Proofs.YtdogcnadopepmaaDoorW.PrintLast Go.Proofs.YtdogcnadopepmaaDoorW.PrintMore
attribute [local go_sem] max2_int min2_int max_two min_two max_three min_three max_four min_four   -- for this text's walks alone
set_option linter.unusedVariables false
set_option linter.unusedSimpArgs false

/-! ### method_Arg: function 98 -/
def method_Arg.f (a0_0 : Int) (a0_1 : Int) (l0_2 : List (S56)) (a1 : Int) : Option (Int × ByteArray) := if a1 < 0 then (some (0, (⟨#[]⟩ : ByteArray))) else (if a1 ≥ (l0_2.length : Int) then (some (0, (⟨#[]⟩ : ByteArray))) else (if 0 ≤ a1 then (if a1 < (l0_2.length : Int) then (some ((rd_T56 l0_2 a1).f0, (rd_T56 l0_2 a1).f1)) else (none)) else (none)))
set_option maxHeartbeats 8000000 in
set_option maxRecDepth 100000 in
theorem method_Arg.calls (a0_0 : Int) (a0_1 : Int) (A0_2 : Option Addr) (c0_2 : Nat) (l0_2 : List (S56)) (a1 : Int) (r1 : Int) (r2 : ByteArray) (w : World) (hr0_2 : Kd.C k56 w A0_2 l0_2.length l0_2) (hc0_2 : l0_2.length ≤ c0_2) (h : method_Arg.f a0_0 a0_1 l0_2 a1 = some (r1, r2)) :
    Calls Tryd.prog 98 #[.agg #[.int .i64 a0_0, .int .i64 a0_1, .slice A0_2 l0_2.length c0_2], .int .i64 a1] w fun e w' => e = .returned (.agg #[.int .u64 r1, .string r2]) ∧ Below w.heap.size w w' := by
  have hu24 := Tryd.underlying24
  have hu56 := Tryd.underlying56
  have HR0_2 := Aside0.mk hr0_2
  have HC0_2 := Aside0.mk hc0_2
  clear hr0_2 hc0_2
  have HB := Aside0.mk (Below.refl w.heap.size w)
  have H : (if a1 < 0 then (some (0, (⟨#[]⟩ : ByteArray))) else (if a1 ≥ (l0_2.length : Int) then (some (0, (⟨#[]⟩ : ByteArray))) else (if 0 ≤ a1 then (if a1 < (l0_2.length : Int) then (some ((rd_T56 l0_2 a1).f0, (rd_T56 l0_2 a1).f1)) else (none)) else (none)))) = some (r1, r2) := h
  clear h
  by_cases c3 : a1 < 0
  · rw [if_pos c3] at H
    have c3b0 : decide (a1 < 0) = true := decide_eq_true c3
    clear c3
    simp only [Option.some.injEq, Prod.mk.injEq] at H
    obtain ⟨rfl, rfl⟩ := H
    go_enter Tryd.func98, Tryd.ntmps98
    go_wp2_with (first | ((with_reducible refine gate_dst (N := 2) rfl ?_); (try (refine gate_guard (by rfl) ?_; dsimp only)); refine box_event ?hg (N := 2) ?hd (cs := #[.int .i64 a0_0, .int .i64 a0_1, .slice A0_2 l0_2.length c0_2]) (t := 24) ?hr ?_; (case hd => rfl); (case hg => rfl); (case hr => first | (go_simp; done) | (go_simp; rfl)); intro gb675 hg w4 hbox hb; have n0_ := Aside0.mk (below_step (by repeat (first | (with_reducible first | exact HB.out | apply below_alloc | apply pw_below_drewN | apply below_drew1) | exact HB.out)) hb); have n1_ := Aside0.mk (hbox); have n2_ := Aside0.mk ((by rw [hg]; exact (below_size (by repeat (first | (with_reducible first | exact HB.out | apply below_alloc | apply pw_below_drewN | apply below_drew1) | exact HB.out))) : w.heap.size ≤ gb675)); have n3_ := Aside0.mk ((by rw [hg]; exact (below_size (by repeat (first | (with_reducible first | exact HB.out | apply below_alloc | apply pw_below_drewN | apply below_drew1) | exact HB.out))) : w.heap.size ≤ gb675)); clear HB; have HB := n0_; have BK675 := n1_; have GW675 := n2_; have GE675 := n3_; clear n0_ n1_ n2_ n3_; clear hb hbox hg) | ((with_reducible refine gate_dst (N := 4) rfl ?_); (try (refine gate_guard (by rfl) ?_; dsimp only)); refine box_event ?hg (N := 4) ?hd (cs := #[.int .u64 0, .string (⟨#[]⟩ : ByteArray)]) (t := 56) ?hr ?_; (case hd => rfl); (case hg => rfl); (case hr => first | (go_simp; done) | (go_simp; rfl)); intro gb676 hg w5 hbox hb; have n0_ := Aside0.mk (blk_below (g := gb675) (o := .cells #[.int .i64 a0_0, .int .i64 a0_1, .slice A0_2 l0_2.length c0_2] 24 (0, 0)) (by (with_reducible repeat (first | refine blk_drewN ?_ _ | refine blk_drew ?_ | refine blk_alloc ?_ _)); exact BK675.out) hb); have n1_ := Aside0.mk (below_step (by repeat (first | (with_reducible first | exact HB.out | apply below_alloc | apply pw_below_drewN | apply below_drew1 | refine below_set ?_ GE675.out) | exact HB.out)) hb); have n2_ := Aside0.mk (hbox); have n3_ := Aside0.mk ((by rw [hg]; exact (below_size (by repeat (first | (with_reducible first | exact HB.out | apply below_alloc | apply pw_below_drewN | apply below_drew1 | refine below_set ?_ GE675.out) | exact HB.out))) : w.heap.size ≤ gb676)); have n4_ := Aside0.mk ((by rw [hg]; exact (below_size (by repeat (first | (with_reducible first | exact HB.out | apply below_alloc | apply pw_below_drewN | apply below_drew1 | refine below_set ?_ GE675.out) | exact HB.out))) : w.heap.size ≤ gb676)); have n5_ := Aside0.mk ((by rw [hg]; exact Nat.ne_of_lt (blk_lt (g := gb675) (o := .cells #[.int .i64 a0_0, .int .i64 a0_1, .slice A0_2 l0_2.length c0_2] 24 (0, 0)) (by (with_reducible repeat (first | refine blk_drewN ?_ _ | refine blk_drew ?_ | refine blk_alloc ?_ _)); exact BK675.out)) : gb675 ≠ gb676)); have n6_ := Aside0.mk ((by rw [hg]; exact Nat.ne_of_gt (blk_lt (g := gb675) (o := .cells #[.int .i64 a0_0, .int .i64 a0_1, .slice A0_2 l0_2.length c0_2] 24 (0, 0)) (by (with_reducible repeat (first | refine blk_drewN ?_ _ | refine blk_drew ?_ | refine blk_alloc ?_ _)); exact BK675.out)) : gb676 ≠ gb675)); clear BK675; clear HB; have BK675 := n0_; have HB := n1_; have BK676 := n2_; have GW676 := n3_; have GE676 := n4_; have NB675_676 := n5_; have NB676_675 := n6_; clear n0_ n1_ n2_ n3_ n4_ n5_ n6_; clear hb hbox hg; have hnb6 := NB676_675.out; have hnc6 := NB675_676.out; have hcz7_0 : w5.cell? ⟨gb676, 0, none⟩ = some (.int .u64 0) := (blk_cell BK676.out 0).trans rfl; have hcz7_1 : w5.cell? ⟨gb676, 1, none⟩ = some (.string (⟨#[]⟩ : ByteArray)) := (blk_cell BK676.out 1).trans rfl; have hfz7_0 := blk_frozen BK676.out 0; have hfz7_1 := blk_frozen BK676.out 1))
    refine bodyPost_ret (results_cell_row rfl _ _ gb676 56 #[.int .u64 0, .string (⟨#[]⟩ : ByteArray)] (0, 0) _ rfl (by (with_reducible repeat (first | refine blk_drewN ?_ _ | refine blk_drew ?_ | refine blk_alloc ?_ _)); refine blk_put (cs := #[.int .u64 0, .string (⟨#[]⟩ : ByteArray)]) ?_ 1 _ rfl; (with_reducible repeat (first | refine blk_drewN ?_ _ | refine blk_drew ?_ | refine blk_alloc ?_ _)); refine blk_put (cs := #[.int .u64 0, .string (⟨#[]⟩ : ByteArray)]) ?_ 0 _ rfl; (with_reducible repeat (first | refine blk_drewN ?_ _ | refine blk_drew ?_ | refine blk_alloc ?_ _)); exact BK676.out) Tryd.underlying56 rfl (by kernel_rfl)) rfl ?_
    exact ⟨by first | rfl | (simp [errW_none, errW_some] <;> rfl) | (simp [*, errW_none, errW_some] <;> rfl), by repeat (first | (with_reducible first | exact HB.out | apply below_alloc | apply pw_below_drewN | apply below_drew1 | refine below_set ?_ GE675.out | refine below_set ?_ GE676.out) | exact HB.out)⟩
  · rw [if_neg c3] at H
    have c3b0 : decide (a1 < 0) = false := decide_eq_false c3
    clear c3
    by_cases c8 : a1 ≥ (l0_2.length : Int)
    · rw [if_pos c8] at H
      have c8b0 : decide ((l0_2.length : Int) ≤ a1) = true := decide_eq_true c8
      clear c8
      simp only [Option.some.injEq, Prod.mk.injEq] at H
      obtain ⟨rfl, rfl⟩ := H
      go_enter Tryd.func98, Tryd.ntmps98
      go_wp2_with (first | ((with_reducible refine gate_dst (N := 2) rfl ?_); (try (refine gate_guard (by rfl) ?_; dsimp only)); refine box_event ?hg (N := 2) ?hd (cs := #[.int .i64 a0_0, .int .i64 a0_1, .slice A0_2 l0_2.length c0_2]) (t := 24) ?hr ?_; (case hd => rfl); (case hg => rfl); (case hr => first | (go_simp; done) | (go_simp; rfl)); intro gb675 hg w9 hbox hb; have n0_ := Aside0.mk (below_step (by repeat (first | (with_reducible first | exact HB.out | apply below_alloc | apply pw_below_drewN | apply below_drew1) | exact HB.out)) hb); have n1_ := Aside0.mk (hbox); have n2_ := Aside0.mk ((by rw [hg]; exact (below_size (by repeat (first | (with_reducible first | exact HB.out | apply below_alloc | apply pw_below_drewN | apply below_drew1) | exact HB.out))) : w.heap.size ≤ gb675)); have n3_ := Aside0.mk ((by rw [hg]; exact (below_size (by repeat (first | (with_reducible first | exact HB.out | apply below_alloc | apply pw_below_drewN | apply below_drew1) | exact HB.out))) : w.heap.size ≤ gb675)); clear HB; have HB := n0_; have BK675 := n1_; have GW675 := n2_; have GE675 := n3_; clear n0_ n1_ n2_ n3_; clear hb hbox hg) | ((with_reducible refine gate_dst (N := 4) rfl ?_); (try (refine gate_guard (by rfl) ?_; dsimp only)); refine box_event ?hg (N := 4) ?hd (cs := #[.int .u64 0, .string (⟨#[]⟩ : ByteArray)]) (t := 56) ?hr ?_; (case hd => rfl); (case hg => rfl); (case hr => first | (go_simp; done) | (go_simp; rfl)); intro gb676 hg w10 hbox hb; have n0_ := Aside0.mk (blk_below (g := gb675) (o := .cells #[.int .i64 a0_0, .int .i64 a0_1, .slice A0_2 l0_2.length c0_2] 24 (0, 0)) (by (with_reducible repeat (first | refine blk_drewN ?_ _ | refine blk_drew ?_ | refine blk_alloc ?_ _)); exact BK675.out) hb); have n1_ := Aside0.mk (below_step (by repeat (first | (with_reducible first | exact HB.out | apply below_alloc | apply pw_below_drewN | apply below_drew1 | refine below_set ?_ GE675.out) | exact HB.out)) hb); have n2_ := Aside0.mk (hbox); have n3_ := Aside0.mk ((by rw [hg]; exact (below_size (by repeat (first | (with_reducible first | exact HB.out | apply below_alloc | apply pw_below_drewN | apply below_drew1 | refine below_set ?_ GE675.out) | exact HB.out))) : w.heap.size ≤ gb676)); have n4_ := Aside0.mk ((by rw [hg]; exact (below_size (by repeat (first | (with_reducible first | exact HB.out | apply below_alloc | apply pw_below_drewN | apply below_drew1 | refine below_set ?_ GE675.out) | exact HB.out))) : w.heap.size ≤ gb676)); have n5_ := Aside0.mk ((by rw [hg]; exact Nat.ne_of_lt (blk_lt (g := gb675) (o := .cells #[.int .i64 a0_0, .int .i64 a0_1, .slice A0_2 l0_2.length c0_2] 24 (0, 0)) (by (with_reducible repeat (first | refine blk_drewN ?_ _ | refine blk_drew ?_ | refine blk_alloc ?_ _)); exact BK675.out)) : gb675 ≠ gb676)); have n6_ := Aside0.mk ((by rw [hg]; exact Nat.ne_of_gt (blk_lt (g := gb675) (o := .cells #[.int .i64 a0_0, .int .i64 a0_1, .slice A0_2 l0_2.length c0_2] 24 (0, 0)) (by (with_reducible repeat (first | refine blk_drewN ?_ _ | refine blk_drew ?_ | refine blk_alloc ?_ _)); exact BK675.out)) : gb676 ≠ gb675)); clear BK675; clear HB; have BK675 := n0_; have HB := n1_; have BK676 := n2_; have GW676 := n3_; have GE676 := n4_; have NB675_676 := n5_; have NB676_675 := n6_; clear n0_ n1_ n2_ n3_ n4_ n5_ n6_; clear hb hbox hg; have hnb11 := NB675_676.out; have hnc11 := NB676_675.out; have hcz12_0 : w10.cell? ⟨gb675, 0, none⟩ = some (.int .i64 a0_0) := (blk_cell BK675.out 0).trans rfl; have hcz12_1 : w10.cell? ⟨gb675, 1, none⟩ = some (.int .i64 a0_1) := (blk_cell BK675.out 1).trans rfl; have hcz12_2 : w10.cell? ⟨gb675, 2, none⟩ = some (.slice A0_2 l0_2.length c0_2) := (blk_cell BK675.out 2).trans rfl; have hfz12_0 := blk_frozen BK675.out 0; have hfz12_1 := blk_frozen BK675.out 1; have hfz12_2 := blk_frozen BK675.out 2; have hcz13_0 : w10.cell? ⟨gb676, 0, none⟩ = some (.int .u64 0) := (blk_cell BK676.out 0).trans rfl; have hcz13_1 : w10.cell? ⟨gb676, 1, none⟩ = some (.string (⟨#[]⟩ : ByteArray)) := (blk_cell BK676.out 1).trans rfl; have hfz13_0 := blk_frozen BK676.out 0; have hfz13_1 := blk_frozen BK676.out 1))
      refine bodyPost_ret (results_cell_row rfl _ _ gb676 56 #[.int .u64 0, .string (⟨#[]⟩ : ByteArray)] (0, 0) _ rfl (by (with_reducible repeat (first | refine blk_drewN ?_ _ | refine blk_drew ?_ | refine blk_alloc ?_ _)); refine blk_put (cs := #[.int .u64 0, .string (⟨#[]⟩ : ByteArray)]) ?_ 1 _ rfl; (with_reducible repeat (first | refine blk_drewN ?_ _ | refine blk_drew ?_ | refine blk_alloc ?_ _)); refine blk_put (cs := #[.int .u64 0, .string (⟨#[]⟩ : ByteArray)]) ?_ 0 _ rfl; (with_reducible repeat (first | refine blk_drewN ?_ _ | refine blk_drew ?_ | refine blk_alloc ?_ _)); exact BK676.out) Tryd.underlying56 rfl (by kernel_rfl)) rfl ?_
      exact ⟨by first | rfl | (simp [errW_none, errW_some] <;> rfl) | (simp [*, errW_none, errW_some] <;> rfl), by repeat (first | (with_reducible first | exact HB.out | apply below_alloc | apply pw_below_drewN | apply below_drew1 | refine below_set ?_ GE675.out | refine below_set ?_ GE676.out) | exact HB.out)⟩
    · rw [if_neg c8] at H
      have c8b0 : decide ((l0_2.length : Int) ≤ a1) = false := decide_eq_false c8
      clear c8
      by_cases c14 : 0 ≤ a1
      · rw [if_pos c14] at H
        have c14b0 : decide (0 ≤ a1) = true := decide_eq_true c14
        clear c14
        by_cases c15 : a1 < (l0_2.length : Int)
        · rw [if_pos c15] at H
          have c15b0 : decide (a1 < (l0_2.length : Int)) = true := decide_eq_true c15
          clear c15
          simp only [Option.some.injEq, Prod.mk.injEq] at H
          obtain ⟨rfl, rfl⟩ := H
          go_enter Tryd.func98, Tryd.ntmps98
          go_wp2_with (first | ((with_reducible refine gate_dst (N := 2) rfl ?_); (try (refine gate_guard (by rfl) ?_; dsimp only)); refine box_event ?hg (N := 2) ?hd (cs := #[.int .i64 a0_0, .int .i64 a0_1, .slice A0_2 l0_2.length c0_2]) (t := 24) ?hr ?_; (case hd => rfl); (case hg => rfl); (case hr => first | (go_simp; done) | (go_simp; rfl)); intro gb675 hg w16 hbox hb; have n0_ := Aside0.mk (below_step (by repeat (first | (with_reducible first | exact HB.out | apply below_alloc | apply pw_below_drewN | apply below_drew1) | exact HB.out)) hb); have n1_ := Aside0.mk (hbox); have n2_ := Aside0.mk ((by rw [hg]; exact (below_size (by repeat (first | (with_reducible first | exact HB.out | apply below_alloc | apply pw_below_drewN | apply below_drew1) | exact HB.out))) : w.heap.size ≤ gb675)); have n3_ := Aside0.mk ((by rw [hg]; exact (below_size (by repeat (first | (with_reducible first | exact HB.out | apply below_alloc | apply pw_below_drewN | apply below_drew1) | exact HB.out))) : w.heap.size ≤ gb675)); clear HB; have HB := n0_; have BK675 := n1_; have GW675 := n2_; have GE675 := n3_; clear n0_ n1_ n2_ n3_; clear hb hbox hg) | ((with_reducible refine gate_dst (N := 4) rfl ?_); (try (refine gate_guard (by rfl) ?_; dsimp only)); refine box_event ?hg (N := 4) ?hd (cs := #[.int .u64 0, .string (⟨#[]⟩ : ByteArray)]) (t := 56) ?hr ?_; (case hd => rfl); (case hg => rfl); (case hr => first | (go_simp; done) | (go_simp; rfl)); intro gb676 hg w17 hbox hb; have n0_ := Aside0.mk (blk_below (g := gb675) (o := .cells #[.int .i64 a0_0, .int .i64 a0_1, .slice A0_2 l0_2.length c0_2] 24 (0, 0)) (by (with_reducible repeat (first | refine blk_drewN ?_ _ | refine blk_drew ?_ | refine blk_alloc ?_ _)); exact BK675.out) hb); have n1_ := Aside0.mk (below_step (by repeat (first | (with_reducible first | exact HB.out | apply below_alloc | apply pw_below_drewN | apply below_drew1 | refine below_set ?_ GE675.out) | exact HB.out)) hb); have n2_ := Aside0.mk (hbox); have n3_ := Aside0.mk ((by rw [hg]; exact (below_size (by repeat (first | (with_reducible first | exact HB.out | apply below_alloc | apply pw_below_drewN | apply below_drew1 | refine below_set ?_ GE675.out) | exact HB.out))) : w.heap.size ≤ gb676)); have n4_ := Aside0.mk ((by rw [hg]; exact (below_size (by repeat (first | (with_reducible first | exact HB.out | apply below_alloc | apply pw_below_drewN | apply below_drew1 | refine below_set ?_ GE675.out) | exact HB.out))) : w.heap.size ≤ gb676)); have n5_ := Aside0.mk ((by rw [hg]; exact Nat.ne_of_lt (blk_lt (g := gb675) (o := .cells #[.int .i64 a0_0, .int .i64 a0_1, .slice A0_2 l0_2.length c0_2] 24 (0, 0)) (by (with_reducible repeat (first | refine blk_drewN ?_ _ | refine blk_drew ?_ | refine blk_alloc ?_ _)); exact BK675.out)) : gb675 ≠ gb676)); have n6_ := Aside0.mk ((by rw [hg]; exact Nat.ne_of_gt (blk_lt (g := gb675) (o := .cells #[.int .i64 a0_0, .int .i64 a0_1, .slice A0_2 l0_2.length c0_2] 24 (0, 0)) (by (with_reducible repeat (first | refine blk_drewN ?_ _ | refine blk_drew ?_ | refine blk_alloc ?_ _)); exact BK675.out)) : gb676 ≠ gb675)); clear BK675; clear HB; have BK675 := n0_; have HB := n1_; have BK676 := n2_; have GW676 := n3_; have GE676 := n4_; have NB675_676 := n5_; have NB676_675 := n6_; clear n0_ n1_ n2_ n3_ n4_ n5_ n6_; clear hb hbox hg; have hnb18 := NB675_676.out; have hnc18 := NB676_675.out; have hcz19_0 : w17.cell? ⟨gb675, 0, none⟩ = some (.int .i64 a0_0) := (blk_cell BK675.out 0).trans rfl; have hcz19_1 : w17.cell? ⟨gb675, 1, none⟩ = some (.int .i64 a0_1) := (blk_cell BK675.out 1).trans rfl; have hcz19_2 : w17.cell? ⟨gb675, 2, none⟩ = some (.slice A0_2 l0_2.length c0_2) := (blk_cell BK675.out 2).trans rfl; have hfz19_0 := blk_frozen BK675.out 0; have hfz19_1 := blk_frozen BK675.out 1; have hfz19_2 := blk_frozen BK675.out 2; have p677 : 0 ≤ (a1 : Int) := of_decide_eq_true (by first | (with_reducible assumption) | assumption); have q677 : a1 < (l0_2.length : Int) := of_decide_eq_true (by first | (with_reducible assumption) | assumption); obtain ⟨ad677, e677, hx677_0, hx677_1⟩ := at_T56 HR0_2.out a1 p677 q677; cases e677; replace hx677_0 := (HB.out.cell (World.block_lt_of_cell? w _ hx677_0)).trans hx677_0; replace hx677_1 := (HB.out.cell (World.block_lt_of_cell? w _ hx677_1)).trans hx677_1; replace p677 := eq_true p677; replace q677 := eq_true q677; have hcz20_0 : w17.cell? ⟨gb676, 0, none⟩ = some (.int .u64 0) := (blk_cell BK676.out 0).trans rfl; have hcz20_1 : w17.cell? ⟨gb676, 1, none⟩ = some (.string (⟨#[]⟩ : ByteArray)) := (blk_cell BK676.out 1).trans rfl; have hfz20_0 := blk_frozen BK676.out 0; have hfz20_1 := blk_frozen BK676.out 1))
          refine bodyPost_ret (results_cell_row rfl _ _ gb676 56 #[.int .u64 ((rd_T56 l0_2 a1).f0), .string ((rd_T56 l0_2 a1).f1)] (0, 0) _ rfl (by (with_reducible repeat (first | refine blk_drewN ?_ _ | refine blk_drew ?_ | refine blk_alloc ?_ _)); refine blk_put (cs := #[.int .u64 ((rd_T56 l0_2 a1).f0), .string (⟨#[]⟩ : ByteArray)]) ?_ 1 _ rfl; (with_reducible repeat (first | refine blk_drewN ?_ _ | refine blk_drew ?_ | refine blk_alloc ?_ _)); refine blk_put (cs := #[.int .u64 0, .string (⟨#[]⟩ : ByteArray)]) ?_ 0 _ rfl; (with_reducible repeat (first | refine blk_drewN ?_ _ | refine blk_drew ?_ | refine blk_alloc ?_ _)); exact BK676.out) Tryd.underlying56 rfl (by kernel_rfl)) rfl ?_
          exact ⟨by first | rfl | (simp [errW_none, errW_some] <;> rfl) | (simp [*, errW_none, errW_some] <;> rfl), by repeat (first | (with_reducible first | exact HB.out | apply below_alloc | apply pw_below_drewN | apply below_drew1 | refine below_set ?_ GE675.out | refine below_set ?_ GE676.out) | exact HB.out)⟩
        · rw [if_neg c15] at H
          exact absurd H (by simp)
      · rw [if_neg c14] at H
        exact absurd H (by simp)

end Go.Proofs.YtdogcnadopepmaaDoor.H
end

/- method.Right: the closures; the loop over a method's values. -/
section
namespace Go.Proofs.YtdogcnadopepmaaDoor.M
open Go.RowKit Go.Proofs.YtdogcnadopepmaaDoorW.PrintWords Go.Proofs.YtdogcnadopepmaaDoorW.PrintLast Go.Proofs.YtdogcnadopepmaaDoorW.PrintMore Go.Proofs.YtdogcnadopepmaaDoor.H
set_option linter.unusedSimpArgs false
set_option linter.unusedVariables false

def valRight.f (k : Nat) (c : Int) (v : S56) : Option Int :=
  match rightsD c with
  | some (.int .i64 z, true) => method_width_right.f k z v.f0 v.f1
  | some (.int .i64 z, false) => method_wide_right.f k z v.f0 v.f1
  | _ => none

theorem OutIs.getN {n o : Nat} {W : World} {D : Int → Option (Value × Bool)} (h : OutIs n W o D) (c : Int) (z : Value) (t : Bool) (hc : D c = some (z, t)) :
    ∃ v, (∀ m, (Instr.lookup 102 (.map (some o)) (.int .u8 c) false).run Tryd.prog (W.drewN m) = .ok v (W.drewN m)) ∧ Clo n W v z t := by
  obtain ⟨h0, es, clk, h1, h2, h3⟩ := h
  obtain ⟨v, hv, hcl⟩ := (h3 c).2 z t hc
  refine ⟨v, fun m => ?_, hcl⟩
  have hz : (zeroValue 104).run Tryd.prog (W.drewN m) = .ok .nilFunc (W.drewN m) := by kernel_rfl
  have h1' : (W.drewN m).heap[o]? = some (.map es clk) := h1
  have := run_lookup_u8 (P := Tryd.prog) (T := 102) (K := 5) (E := 104) Tryd.underlying102 Tryd.underlying5 h1' h2 hz c false
  rw [hv] at this
  simpa using this

set_option maxRecDepth 100000 in
set_option maxHeartbeats 2000000 in
theorem clo94 (k : Nat) (b p : Nat) (z : Int) (v : S56) (r : Int) (w : World) (h1 : BlockIs w b 158 #[.func (.func 92) #[] #[]]) (h2 : BlockIs w p 90 #[.int .i64 z]) (h : method_width_right.f k z v.f0 v.f1 = some r) :
    Calls Tryd.prog 94 #[.agg #[.int .u64 v.f0, .string v.f1], .pointer (some ⟨b, 0, none⟩), .pointer (some ⟨p, 0, none⟩)] w fun e w' => e = .returned (.int .i64 r) ∧ Below w.heap.size w w' := by
  have c1 := h1.cell 0
  have c2 := h2.cell 0
  simp only [List.getElem?_toArray, List.getElem?_cons_zero] at c1 c2
  have k1 := World.block_lt_of_cell? w _ c1
  have k2 := World.block_lt_of_cell? w _ c2
  have C := fun W => method_width_right.calls k z v.f0 v.f1 r W h
  have HC := Lib.hid C
  clear C h h1 h2
  go_enter Tryd.func94, Tryd.ntmps94
  go_wp2_with (go_at_call 92; refine (HC.out _).mono ?_; rintro e w' ⟨rfl, hb⟩; have HB := Lib.hid hb; clear hb)
  go_ret
  exact ⟨rfl, below_up ((Below.refl _ w).alloc (Nat.le_refl _) _) (by simp) HB.out⟩
set_option maxRecDepth 100000 in
set_option maxHeartbeats 2000000 in
theorem clo96 (k : Nat) (b p : Nat) (z : Int) (v : S56) (r : Int) (w : World) (h1 : BlockIs w b 159 #[.func (.func 93) #[] #[]]) (h2 : BlockIs w p 160 #[.int .i64 z]) (h : method_wide_right.f k z v.f0 v.f1 = some r) (hWd : Wd w) :
    Calls Tryd.prog 96 #[.agg #[.int .u64 v.f0, .string v.f1], .pointer (some ⟨b, 0, none⟩), .pointer (some ⟨p, 0, none⟩)] w fun e w' => e = .returned (.int .i64 r) ∧ Below w.heap.size w w' := by
  have c1 := h1.cell 0
  have c2 := h2.cell 0
  simp only [List.getElem?_toArray, List.getElem?_cons_zero] at c1 c2
  have k1 := World.block_lt_of_cell? w _ c1
  have k2 := World.block_lt_of_cell? w _ c2
  have C := fun W (hW : Wd W) => method_wide_right.calls k z v.f0 v.f1 r W h hW
  have HC := Lib.hid C
  clear C h h1 h2
  go_enter Tryd.func96, Tryd.ntmps96
  go_wp2_with (go_at_call 93; refine (HC.out _ (hWd.up ((Below.refl _ w).alloc (Nat.le_refl _) _))).mono ?_; rintro e w' ⟨rfl, hb⟩; have HB := Lib.hid hb; clear hb)
  go_ret
  exact ⟨rfl, below_up ((Below.refl _ w).alloc (Nat.le_refl _) _) (by simp) HB.out⟩

def method_Right.l (k : Nat) (s : ByteArray) : List S56 → Nat → Option Int
  | [], _ => some 0
  | v :: vs, i => if i < s.size then (valRight.f k (bt s (i : Int)) v).bind fun e => if e = 0 then method_Right.l k s vs (i + 1) else some e else none
def method_Right.f (k : Nat) (a0_0 a0_1 : Int) (l0_2 : List S56) : Option Int :=
  (sig_Of.f a0_0 a0_1).bind fun t => if t.2 = true then (if (t.1.size : Int) = (l0_2.length : Int) then method_Right.l k t.1 l0_2 0 else some 7) else some 7

theorem valRight.mono (c : Int) (v : S56) (k : Nat) : LeO (valRight.f k c v) (valRight.f (k + 1) c v) := by
  unfold valRight.f
  split
  · exact method_width_right.mono _ _ _ k
  · exact method_wide_right.mono _ _ _ k
  · exact LeO.refl _
theorem method_Right.mono_l (s : ByteArray) (k : Nat) : ∀ (l : List S56) (i : Nat), LeO (method_Right.l k s l i) (method_Right.l (k + 1) s l i)
  | [], _ => LeO.refl _
  | v :: vs, i => LeO.ite (LeO.bind (valRight.mono _ _ k) (fun e => LeO.ite (method_Right.mono_l s k vs (i + 1)) (LeO.refl _))) (LeO.refl _)
theorem method_Right.mono : ∀ a0_0 a0_1 l0_2 k, LeO (method_Right.f k a0_0 a0_1 l0_2) (method_Right.f (k + 1) a0_0 a0_1 l0_2) := fun a b l k =>
  LeO.bind (LeO.refl _) (fun t => LeO.ite (LeO.ite (method_Right.mono_l _ k _ _) (LeO.refl _)) (LeO.refl _))

theorem clo_meet (k n o : Nat) (c : Int) (v : S56) (e1 : Int) (W : World) (hO : OutIs n W o rightsD) (hWd : Wd W) (hV : valRight.f k c v = some e1) :
    ∃ f b p, (f = 94 ∨ f = 96) ∧ (∀ m, (Instr.lookup 102 (.map (some o)) (.int .u8 c) false).run Tryd.prog (W.drewN m) = .ok (.func (.func f) #[] #[.pointer (some ⟨b, 0, none⟩), .pointer (some ⟨p, 0, none⟩)]) (W.drewN m)) ∧
      ∀ m, Calls Tryd.prog f #[.agg #[.int .u64 v.f0, .string v.f1], .pointer (some ⟨b, 0, none⟩), .pointer (some ⟨p, 0, none⟩)] (W.drewN m) fun e w' => e = .returned (.int .i64 e1) ∧ Below W.heap.size W w' := by
  have main : ∀ z t, rightsD c = some (.int .i64 z, t) → (if t then method_width_right.f k z v.f0 v.f1 else method_wide_right.f k z v.f0 v.f1) = some e1 →
      ∃ f b p, (f = 94 ∨ f = 96) ∧ (∀ m, (Instr.lookup 102 (.map (some o)) (.int .u8 c) false).run Tryd.prog (W.drewN m) = .ok (.func (.func f) #[] #[.pointer (some ⟨b, 0, none⟩), .pointer (some ⟨p, 0, none⟩)]) (W.drewN m)) ∧
      ∀ m, Calls Tryd.prog f #[.agg #[.int .u64 v.f0, .string v.f1], .pointer (some ⟨b, 0, none⟩), .pointer (some ⟨p, 0, none⟩)] (W.drewN m) fun e w' => e = .returned (.int .i64 e1) ∧ Below W.heap.size W w' := by
    intro z t hD hr
    obtain ⟨u, hl, b, p, _, _, rfl, h1, h2⟩ := hO.getN c (.int .i64 z) t hD
    have hb : ∀ {m : Nat} {w' : World}, Below (W.drewN m).heap.size (W.drewN m) w' → Below W.heap.size W w' := fun {m w'} h => (pw_below_drewN (Below.refl W.heap.size W) m).trans h
    cases t with
    | true => exact ⟨94, b, p, .inl rfl, hl, fun m => (clo94 k b p z v e1 (W.drewN m) h1 h2 (by simpa using hr)).mono (fun e w' h => ⟨h.1, hb h.2⟩)⟩
    | false => exact ⟨96, b, p, .inr rfl, hl, fun m => (clo96 k b p z v e1 (W.drewN m) h1 h2 (by simpa using hr) (hWd.drewN m)).mono (fun e w' h => ⟨h.1, hb h.2⟩)⟩
  unfold valRight.f at hV
  split at hV
  · exact main _ true (by assumption) (by simpa using hV)
  · exact main _ false (by assumption) (by simpa using hV)
  · cases hV

set_option maxRecDepth 100000 in
set_option maxHeartbeats 8000000 in
theorem method_Right.calls (k : Nat) (a0_0 a0_1 : Int) (A0_2 : Option Addr) (c0_2 : Nat) (l0_2 : List S56) (r : Int) (w : World) (hr0_2 : Kd.C k56 w A0_2 l0_2.length l0_2) (hc0_2 : l0_2.length ≤ c0_2) (h : method_Right.f k a0_0 a0_1 l0_2 = some r) (hWd : Wd w := by first | (with_reducible assumption) | exact hWd.drewN _ | exact Wd.up hWd (by repeat (first | (with_reducible first | exact HB.out | apply below_alloc | apply pw_below_drewN | apply below_drew1) | exact HB.out))) :
    Calls Tryd.prog 22 #[.agg #[.int .i64 a0_0, .int .i64 a0_1, .slice A0_2 l0_2.length c0_2]] w fun e w' => e = .returned (.int .i64 r) ∧ Below w.heap.size w w' := by
  obtain ⟨⟨s, is⟩, hS, H⟩ := Option.bind_eq_some_iff.1 h
  have C1 := fun W => sig_Of.calls a0_0 a0_1 s is W hS
  have C2 := fun W => rights_any W
  have HC1 := Lib.hid C1
  have HC2 := Lib.hid C2
  have HWd := Lib.hid hWd
  have HR := Lib.hid hr0_2
  dsimp only at H
  clear C1 C2 h hS hWd hr0_2 hc0_2
  have bx := BlockIs.new w 24 #[.int .i64 a0_0, .int .i64 a0_1, .slice A0_2 l0_2.length c0_2]
  have HBX := Lib.hid bx
  clear bx
  by_cases c1 : is = true
  · subst c1
    rw [if_pos rfl] at H
    by_cases c2 : (s.size : Int) = (l0_2.length : Int)
    · rw [if_pos c2] at H
      have c2b : ((s.size : Int) != (l0_2.length : Int)) = false := bne_eq_false_iff_eq.mpr c2
      have H' := Lib.hid H
      have C2' := Lib.hid c2
      clear H c2
      go_enter Tryd.func22, Tryd.ntmps22
      go_wp2
      go_step3
      go_wp2_with (first | (go_at_call 39; refine (HC1.out _).mono ?_; rintro e w1 ⟨rfl, hb⟩; have HB1 := Lib.hid hb; have x2 := (HBX.out.below hb (by simp)).cell 2; simp only [List.getElem?_toArray, List.getElem?_cons_zero, List.getElem?_cons_succ] at x2; clear hb) | (go_at_call 56; refine (HC2.out _).mono ?_; rintro e w2 ⟨o, rfl, ho, hb⟩; have HO := Lib.hid ho; have HB2 := Lib.hid hb; have x3 := ((HBX.out.below HB1.out (by simp)).below hb (by have := HB1.out.size; simp at this; omega)).cell 2; simp only [List.getElem?_toArray, List.getElem?_cons_zero, List.getElem?_cons_succ] at x3; clear hb ho))
      go_step3
      go_wp2
      have hBw : Below w.heap.size w w2 := below_up (below_up ((Below.refl _ w).alloc (Nat.le_refl _) _) (by simp) HB1.out) (by have := HB1.out.size; simp at this; omega) HB2.out
      have HBw := Lib.hid hBw
      clear x2 x3 hBw HC1 HC2 HB1 HB2
      go_loopg [6, 31] l0_2.length (fun kq v6 v31 wr => ∃ x : Int, v6 = .int .i64 0 ∧ v31 = .int .i64 x ∧ Aside0 (0 ≤ x ∧ x ≤ l0_2.length) ∧ Aside0 (kq = l0_2.length - x.toNat) ∧ Aside0 (method_Right.l k s (l0_2.drop x.toNat) x.toNat = some r) ∧ Aside0 (OutIs w1.heap.size wr o rightsD) ∧ Aside0 (Below w.heap.size w wr))
      case atStart => exact ⟨0, rfl, rfl, ⟨by omega, by omega⟩, ⟨rfl⟩, ⟨H'.out⟩, ⟨HO.out⟩, ⟨HBw.out⟩⟩
      case round =>
        obtain ⟨x, rfl, rfl, hi, hk, hL, hO, hB⟩ := hrel
        obtain ⟨hi1, hi2⟩ := hi.out
        have hL' := hL.out
        clear HO HBw H' hi hL
        by_cases c3 : x = l0_2.length
        · have c3b : decide (x < (l0_2.length : Int)) = false := decide_eq_false (by omega)
          rw [show x.toNat = l0_2.length by omega, List.drop_length] at hL'
          simp only [method_Right.l, Option.some.injEq] at hL'
          subst hL'
          clear c3 hi1 hi2
          go_wp2
          rw [Exit.noGoto_ret]
          go_ret
          exact ⟨rfl, hB.out⟩
        · have hlt : x.toNat < l0_2.length := by omega
          have c3b : decide (x < (l0_2.length : Int)) = true := decide_eq_true (by omega)
          have p252 : 0 ≤ (x : Int) := by omega
          have q252 : (x : Int) < (l0_2.length : Int) := by omega
          have q253 : x < (s.size : Int) := by have := C2'.out; omega
          obtain ⟨ad, e252, hx0, hx1⟩ := at_T56 (Kd.C_below HR.out hB.out) x p252 q252
          cases e252
          have hbt := bt_at s x
          rw [List.drop_eq_getElem_cons hlt] at hL'
          have hv : l0_2[x.toNat] = rd_T56 l0_2 x := by simp [rd_T56, hlt]
          rw [hv] at hL'
          simp only [method_Right.l] at hL'
          rw [if_pos (by omega), show ((x.toNat : Nat) : Int) = x by omega] at hL'
          obtain ⟨e1, hV, hL'⟩ := Option.bind_eq_some_iff.1 hL'
          have hm : List.drop (x.toNat + 1) l0_2 = List.drop (x + 1).toNat l0_2 ∧ x.toNat + 1 = (x + 1).toNat := by
            have : (x + 1).toNat = x.toNat + 1 := by omega
            rw [this]; exact ⟨rfl, rfl⟩
          have hB8 := (Below.refl wr.heap.size wr).alloc (Nat.le_refl _) (.cells #[.int .u64 (rd_T56 l0_2 x).f0, .string (rd_T56 l0_2 x).f1] 56)
          obtain ⟨f, b, p, hf, hlk, hcall⟩ := clo_meet k w1.heap.size o (bt s x) (rd_T56 l0_2 x) e1 _ (hO.out.below hB8) (HWd.out.up (below_up hB.out hB.out.size hB8)) hV
          have hwx : wrap64 (x + 1) = x + 1 := by
            have := Kd.C_max HR.out
            simp only [wrap64]
            omega
          have HWX := Lib.hid hwx
          clear hwx
          replace p252 := eq_true p252
          replace q252 := eq_true q252
          replace q253 := eq_true q253
          have HL := Lib.hid hL'
          have HM := Lib.hid hm
          have HC := Lib.hid hcall
          have HC3 := Lib.hid (show x + 1 ≤ l0_2.length ∧ 0 ≤ x from ⟨by omega, by omega⟩)
          have HB8 := Lib.hid hB8
          clear hL' hm hcall c3 hv hlt hi1 hi2 hV
          have HO8 := Lib.hid (hO.out.below hB8)
          have HBB8 := Lib.hid (below_up hB.out hB.out.size hB8)
          have bb := BlockIs.new wr 56 #[.int .u64 (rd_T56 l0_2 x).f0, .string (rd_T56 l0_2 x).f1]
          have y0 := bb.cell 0
          have y1 := bb.cell 1
          simp only [List.getElem?_toArray, List.getElem?_cons_zero, List.getElem?_cons_succ] at y0 y1
          have hl1 := hlk 1
          have HC1 := Lib.hid (HC.out 1)
          clear HC bb hlk hB8 HB8 hO
          rcases hf with rfl | rfl
          all_goals
            go_upto_region 9 with fail
            generalize wr.alloc (.cells #[.int .u64 (rd_T56 l0_2 x).f0, .string (rd_T56 l0_2 x).f1] 56) = Wb at *
            have hl2 : (Instr.lookup 102 (.map (some o)) (.int .u8 (bt s x)) false).run Tryd.prog Wb.drew = .ok _ Wb.drew := hl1
            clear hl1 hx0 hx1
            go_still_tail 6, (by kernel_rfl)
            by_cases ce : e1 = 0
            · subst ce
              have HL2 := HL.out
              rw [if_pos rfl, HM.out.1, HM.out.2] at HL2
              have HL3 := Lib.hid HL2
              clear HL2 HL HM
              go_wp2_with (first | (go_at_call 94; refine HC1.out.mono ?_; rintro e w9 ⟨rfl, hb⟩; have HB9 := Lib.hid hb; clear hb) | (go_at_call 96; refine HC1.out.mono ?_; rintro e w9 ⟨rfl, hb⟩; have HB9 := Lib.hid hb; clear hb))
              go_roundg (l0_2.length - (x + 1).toNat)
              case measure => have := HC3.out; have := hk.out; omega
              case rel => exact ⟨x + 1, rfl, congrArg _ HWX.out, ⟨by have := HC3.out; omega, HC3.out.1⟩, ⟨rfl⟩, ⟨HL3.out⟩, ⟨HO8.out.below HB9.out⟩, ⟨below_up HBB8.out HBB8.out.size HB9.out⟩⟩
            · have HL2 := HL.out
              rw [if_neg ce] at HL2
              obtain rfl := Option.some.inj HL2
              have ceb : (e1 != 0) = true := bne_iff_ne.2 ce
              clear HL2 HL HM ce
              go_wp2_with (first | (go_at_call 94; refine HC1.out.mono ?_; rintro e w9 ⟨rfl, hb⟩; have HB9 := Lib.hid hb; clear hb) | (go_at_call 96; refine HC1.out.mono ?_; rintro e w9 ⟨rfl, hb⟩; have HB9 := Lib.hid hb; clear hb))
              rw [Exit.noGoto_ret]
              go_ret
              exact ⟨rfl, below_up HBB8.out HBB8.out.size HB9.out⟩
    · rw [if_neg c2] at H
      obtain rfl := Option.some.inj H
      have c2b : ((s.size : Int) != (l0_2.length : Int)) = true := bne_iff_ne.2 c2
      clear H c2
      go_enter Tryd.func22, Tryd.ntmps22
      go_wp2
      go_step3
      go_wp2_with (go_at_call 39; refine (HC1.out _).mono ?_; rintro e w1 ⟨rfl, hb⟩; have HB1 := Lib.hid hb; have x2 := (HBX.out.below hb (by simp)).cell 2; simp only [List.getElem?_toArray, List.getElem?_cons_zero, List.getElem?_cons_succ] at x2; clear hb)
      rw [Exit.noGoto_ret]
      go_ret
      exact ⟨rfl, below_up ((Below.refl _ w).alloc (Nat.le_refl _) _) (by simp) HB1.out⟩
  · rw [if_neg c1] at H
    obtain rfl := Option.some.inj H
    obtain rfl : is = false := by simpa using c1
    clear H c1
    go_enter Tryd.func22, Tryd.ntmps22
    go_wp2
    go_step3
    go_wp2_with (go_at_call 39; refine (HC1.out _).mono ?_; rintro e w1 ⟨rfl, hb⟩; have HB1 := Lib.hid hb; have x2 := (HBX.out.below hb (by simp)).cell 2; simp only [List.getElem?_toArray, List.getElem?_cons_zero, List.getElem?_cons_succ] at x2; clear hb)
    rw [Exit.noGoto_ret]
    go_ret
    exact ⟨rfl, below_up ((Below.refl _ w).alloc (Nat.le_refl _) _) (by simp) HB1.out⟩
end Go.Proofs.YtdogcnadopepmaaDoor.M
end
