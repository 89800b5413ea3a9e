/- Texts of this seat's, one behind the other (merge.py). -/
import Derived.WalkKit
import Derived.KernelRfl
import Derived.MapKept
import Derived.RangeFuncRecord
import Derived.Test.YtdogcnadopepmaaDoorG2
import Derived.Test.YtdogcnadopepmaaDoorG1
import Derived.WalkLawsBesides
import Derived.WalkMore
import Derived.ScopeJumps
/- Maps keyed by bytes that the call itself lays: their look-ups and stores, whatever their elements are. -/
section
namespace Go.Proofs.YtdogcnadopepmaaDoor.M
open Go.RowKit

/-- What is under a byte. -/
def lk : List MapEntry → Int → Option Value
  | [], _ => none
  | e :: es, c => match e.key with
    | .int .u8 k => if c = k then some e.val else lk es c
    | _ => lk es c
/-- All keys are bytes. -/
def keyed (es : List MapEntry) : Prop := ∀ e ∈ es, ∃ k : Int, e.key = .int .u8 k

theorem findNow_lk : ∀ (es : List MapEntry) (c : Int) (n : Nat), keyed es → ∃ i, Instr.findNow (.int .u8) (.int .u8 c) es n = some ((lk es c).map fun v => (i, v))
  | [], c, n, _ => ⟨0, rfl⟩
  | e :: es, c, n, h => by
    obtain ⟨k, hk⟩ := h e (by simp)
    obtain ⟨i, hi⟩ := findNow_lk es c (n + 1) (fun x hx => h x (by simp [hx]))
    by_cases hc : c = k
    · subst hc
      refine ⟨n, ?_⟩
      simp [Instr.findNow, hk, Instr.sameNow, lk]
    · refine ⟨i, ?_⟩
      have : (c == k) = false := by simpa using hc
      simp [Instr.findNow, hk, Instr.sameNow, lk, hc, this, hi]

section
variable {P : Program}

theorem run_getObj_map' {w : World} {r : Nat} {es : Array MapEntry} {clk : Nat} (h : w.heap[r]? = some (.map es clk)) : (getObj r).run P w = .ok (.map es clk) w := by
  simp [getObj, Sem.run, h]

theorem run_findKey_u8 {w : World} {K : TypeId} (hK : P.underlying K = some (.int .u8)) (c : Int) (es : List MapEntry) (h : keyed es) :
    ∃ i, (Instr.findKey K (.int .u8 c) es).run P w = .ok ((lk es c).map fun v => (i, v)) w := by
  obtain ⟨i, hi⟩ := findNow_lk es c 0 h
  refine ⟨i, ?_⟩
  simp only [Instr.findKey, Sem.run_bind, run_underlying hK w, Result.andThen_ok, hi, Sem.run_pure]

theorem run_checkKey_u8 {w : World} {K : TypeId} (hK : P.underlying K = some (.int .u8)) (b : Bool) (c : Int) (n : Nat) : (Instr.checkKey b (n + 1) K (.int .u8 c)).run P w = .ok () w := by
  simp only [Instr.checkKey, Sem.run_bind, run_underlying hK w, Result.andThen_ok, Sem.run_pure]

/-- A look-up. -/
theorem run_lookup_u8 {w : World} {T K E : TypeId} {r : Nat} {es : Array MapEntry} {clk : Nat} {z : Value} (hT : P.underlying T = some (.map K E)) (hK : P.underlying K = some (.int .u8))
    (hb : w.heap[r]? = some (.map es clk)) (hk : keyed es.toList) (hz : (zeroValue E).run P w = .ok z w) (c : Int) (ok : Bool) :
    (Instr.lookup T (.map (some r)) (.int .u8 c) ok).run P w = .ok (if ok then .tuple #[(lk es.toList c).getD z, .bool (lk es.toList c).isSome] else (lk es.toList c).getD z) w := by
  obtain ⟨i, hi⟩ := run_findKey_u8 (P := P) (w := w) hK c es.toList hk
  have hq := fun b => run_checkKey_u8 (P := P) (w := w) hK b c 9999
  simp only [Instr.lookup, Sem.run_bind, run_underlying hT w, Result.andThen_ok, run_getObj_map' hb, Sem.run_pure, hq, hi]
  cases h : lk es.toList c with
  | none => simp [hz]
  | some v => simp

/-- What a store of a new key makes of the map. -/
theorem run_mapUpdate_u8 {w : World} {T K E : TypeId} {r : Nat} {es : Array MapEntry} {clk : Nat} (hT : P.underlying T = some (.map K E)) (hK : P.underlying K = some (.int .u8))
    (hb : w.heap[r]? = some (.map es clk)) (hk : keyed es.toList) (c : Int) (v : Value) (hc : lk es.toList c = none) :
    (Instr.mapUpdate T (.map (some r)) (.int .u8 c) v).run P w = .ok () { w with heap := w.heap.setIfInBounds r (.map (es.push { key := .int .u8 c, val := v, born := clk }) (clk + 1)) } := by
  obtain ⟨i, hi⟩ := run_findKey_u8 (P := P) (w := w) hK c es.toList hk
  simp only [hc, Option.map_none] at hi
  have hq := run_checkKey_u8 (P := P) (w := w) hK false c 9999
  simp only [Instr.mapUpdate, Sem.run_bind, run_underlying hT w, Result.andThen_ok, run_getObj_map' hb, hq, hi]
  simp [setObj, Sem.run, hb]
end

theorem keyed_push {es : Array MapEntry} (h : keyed es.toList) (c : Int) (v : Value) (n : Nat) : keyed (es.push { key := .int .u8 c, val := v, born := n }).toList := by
  intro e he
  simp at he
  rcases he with he | rfl
  · exact h e (by simpa using he)
  · exact ⟨c, rfl⟩

theorem lk_append : ∀ (es : List MapEntry) (e : MapEntry) (k : Int), e.key = .int .u8 k → ∀ c, keyed es → lk (es ++ [e]) c = (lk es c).or (if c = k then some e.val else none)
  | [], e, k, he, c, _ => by simp [lk, he]
  | x :: es, e, k, he, c, h => by
    obtain ⟨q, hq⟩ := h x (by simp)
    have ih := lk_append es e k he c (fun y hy => h y (by simp [hy]))
    simp only [List.cons_append, lk, hq]
    by_cases hc : c = q
    · simp [hc]
    · simp [hc, ih]

/-- THE MAP IN BLOCK r HOLDS f. -/
def MapIs (W : World) (r : Nat) (f : Int → Option Value) : Prop :=
  ∃ es clk, W.heap[r]? = some (.map es clk) ∧ keyed es.toList ∧ ∀ c, lk es.toList c = f c

theorem MapIs.lt {W : World} {r : Nat} {f : Int → Option Value} (h : MapIs W r f) : r < W.heap.size := by
  obtain ⟨es, clk, hb, _⟩ := h
  exact (Array.getElem?_eq_some_iff.1 hb).1
theorem MapIs.below {W W' : World} {n r : Nat} {f : Int → Option Value} (h : MapIs W r f) (hb : Below n W W') (hn : r < n) : MapIs W' r f := by
  obtain ⟨es, clk, h1, h2, h3⟩ := h
  exact ⟨es, clk, (hb.block r hn).trans h1, h2, h3⟩
theorem MapIs.alloc {W : World} {r : Nat} {f : Int → Option Value} (h : MapIs W r f) (o : Obj) : MapIs (W.alloc o) r f :=
  h.below ((Below.refl W.heap.size W).alloc (Nat.le_refl _) o) h.lt
theorem MapIs.heap {W W' : World} {r : Nat} {f : Int → Option Value} (h : MapIs W r f) (e : W'.heap[r]? = W.heap[r]?) : MapIs W' r f := by
  obtain ⟨es, clk, h1, h2, h3⟩ := h
  exact ⟨es, clk, e.trans h1, h2, h3⟩
theorem MapIs.setCell {W : World} {r : Nat} {f : Int → Option Value} (h : MapIs W r f) (a : Addr) (v : Value) : MapIs (W.setCell a v) r f := by
  obtain ⟨es, clk, h1, h2, h3⟩ := h
  refine ⟨es, clk, ?_, h2, h3⟩
  by_cases hb : a.block = r
  · subst hb
    simp [World.setCell, Array.getElem?_modify, h1]
  · simp [World.setCell, Array.getElem?_modify, hb, h1]
theorem MapIs.lookup {P : Program} {W : World} {T K E : TypeId} {r : Nat} {f : Int → Option Value} {z : Value} (h : MapIs W r f) (hT : P.underlying T = some (.map K E)) (hK : P.underlying K = some (.int .u8))
    (hz : (zeroValue E).run P W = .ok z W) (c : Int) (ok : Bool) :
    (Instr.lookup T (.map (some r)) (.int .u8 c) ok).run P W = .ok (if ok then .tuple #[(f c).getD z, .bool (f c).isSome] else (f c).getD z) W := by
  obtain ⟨es, clk, h1, h2, h3⟩ := h
  have := run_lookup_u8 (P := P) hT hK h1 h2 hz c ok
  rwa [h3] at this

/-! A row of stores of constants into a map that was just made. -/
def kv : List (Int × Value) → Int → Option Value
  | [], _ => none
  | p :: l, c => if c = p.1 then some p.2 else kv l c
def mkEs : List (Int × Value) → Nat → List MapEntry
  | [], _ => []
  | p :: l, n => { key := .int .u8 p.1, val := p.2, born := n } :: mkEs l (n + 1)
theorem lk_mkEs : ∀ (l : List (Int × Value)) (n : Nat) (c : Int), lk (mkEs l n) c = kv l c
  | [], _, _ => rfl
  | p :: l, n, c => by simp [mkEs, lk, kv, lk_mkEs l (n + 1) c]
theorem keyed_mkEs : ∀ (l : List (Int × Value)) (n : Nat), keyed (mkEs l n)
  | [], _ => fun e he => by simp [mkEs] at he
  | p :: l, n => fun e he => by
    simp only [mkEs, List.mem_cons] at he
    rcases he with rfl | he
    · exact ⟨p.1, rfl⟩
    · exact keyed_mkEs l (n + 1) e he
theorem mkEs_snoc : ∀ (l : List (Int × Value)) (p : Int × Value) (n : Nat), mkEs (l ++ [p]) n = mkEs l n ++ [{ key := .int .u8 p.1, val := p.2, born := n + l.length }]
  | [], p, n => by simp [mkEs]
  | q :: l, p, n => by simp [mkEs, mkEs_snoc l p (n + 1)]; omega
theorem kv_none : ∀ (l : List (Int × Value)) (c : Int), c ∉ l.map (·.1) → kv l c = none
  | [], _, _ => rfl
  | p :: l, c, h => by
    simp only [List.map_cons, List.mem_cons, not_or] at h
    simp [kv, h.1, kv_none l c h.2]

theorem wpList_inserts {P : Program} {ops : Array Oper} {Q : Exit → Act → World → Prop} {a : Act} {w : World} (T K E : TypeId) (hT : P.underlying T = some (.map K E)) (hK : P.underlying K = some (.int .u8))
    (mt : Operand) (hm : a.eval mt = .map (some w.heap.size)) (rest : List Oper) : ∀ (todo done : List (Int × Value)) (l : List Oper),
      l.map (fun o => (o.guard, o.dst, o.op)) = todo.map (fun p => ((none : Option (Nat × Bool)), (none : Option Tmp), Op.insert T mt (.const (.int .u8 p.1)) (.const p.2))) →
      ((done ++ todo).map (·.1)).Nodup →
      wpList P ops Q rest a (w.alloc (.map (mkEs (done ++ todo) 0).toArray (done ++ todo).length)) →
      wpList P ops Q (l ++ rest) a (w.alloc (.map (mkEs done 0).toArray done.length)) := by
  intro todo
  induction todo with
  | nil =>
    intro done l hl _ h
    have : l = [] := by simpa using hl
    subst this
    simpa using h
  | cons p todo ih =>
    intro done l hl hn h
    cases l with
    | nil => simp at hl
    | cons o l =>
      simp only [List.map_cons, List.cons.injEq, Prod.mk.injEq] at hl
      obtain ⟨⟨hg, hd, ho⟩, hl⟩ := hl
      have hnot : p.1 ∉ done.map (·.1) := by
        rw [List.map_append, List.map_cons, List.nodup_append] at hn
        intro hx
        exact hn.2.2 p.1 hx p.1 (by simp) rfl
      refine wpList_plain hg (fun K2 hK2 => ?_)
      unfold Oper.wp
      have hb : (w.alloc (.map (mkEs done 0).toArray done.length)).heap[w.heap.size]? = some (.map (mkEs done 0).toArray done.length) := World.alloc_heap_new w _
      have hrun := run_mapUpdate_u8 (P := P) hT hK hb (by simpa using keyed_mkEs done 0) p.1 p.2 (by simpa [lk_mkEs] using kv_none done p.1 hnot)
      have hw : { w.alloc (.map (mkEs done 0).toArray done.length) with heap := (w.alloc (.map (mkEs done 0).toArray done.length)).heap.setIfInBounds w.heap.size (.map ((mkEs done 0).toArray.push { key := .int .u8 p.1, val := p.2, born := done.length }) (done.length + 1)) } =
          w.alloc (.map (mkEs (done ++ [p]) 0).toArray (done ++ [p]).length) := by
        simp only [World.alloc, mkEs_snoc, Nat.zero_add, List.length_append, List.length_cons, List.length_nil]
        congr 1
        apply Array.ext_getElem?
        intro i
        by_cases hi : i = w.heap.size
        · subst hi; simp
        · simp [Array.getElem?_push, hi, Ne.symm hi]
      have hev : (execOp a.eval o).run P (w.alloc (.map (mkEs done 0).toArray done.length)) = .ok .skip (w.alloc (.map (mkEs (done ++ [p]) 0).toArray (done ++ [p]).length)) := by
        have e1 : a.eval (.const (.int .u8 p.1)) = .int .u8 p.1 := rfl
        have e2 : a.eval (.const p.2) = p.2 := rfl
        simp only [execOp, ho, hm, e1, e2, Sem.run_bind, hrun, Result.andThen_ok, Sem.run_pure, hw]
      rw [hev, Oper.upon_skip]
      refine hK2 _ _ ?_
      have hput : a.put o.dst undef = a := by simp [Act.put, hd]
      rw [hput]
      refine ih (done ++ [p]) l hl (by simpa using hn) ?_
      simpa using h

theorem MapIs_made (w : World) (l : List (Int × Value)) : MapIs (w.alloc (.map (mkEs l 0).toArray l.length)) w.heap.size (kv l) :=
  ⟨_, _, World.alloc_heap_new w _, by simpa using keyed_mkEs l 0, fun c => by simpa using lk_mkEs l 0 c⟩

theorem wpList_fill {P : Program} {ops : Array Oper} {Q : Exit → Act → World → Prop} {a : Act} {w : World} {L : List Oper} (n : Nat) (T K E : TypeId) (hT : P.underlying T = some (.map K E)) (hK : P.underlying K = some (.int .u8))
    (mt : Operand) (hm : a.eval mt = .map (some w.heap.size)) (todo : List (Int × Value))
    (hl : (L.take n).map (fun o => (o.guard, o.dst, o.op)) = todo.map (fun p => ((none : Option (Nat × Bool)), (none : Option Tmp), Op.insert T mt (.const (.int .u8 p.1)) (.const p.2))))
    (hn : (todo.map (·.1)).Nodup)
    (h : wpList P ops Q (L.drop n) a (w.alloc (.map (mkEs todo 0).toArray todo.length))) : wpList P ops Q L a (w.alloc (.map #[] 0)) := by
  have := wpList_inserts (P := P) (ops := ops) (Q := Q) T K E hT hK mt hm (L.drop n) todo [] (L.take n) hl hn h
  rw [List.take_append_drop] at this
  exact this
end Go.Proofs.YtdogcnadopepmaaDoor.M
end

/- The maps of constants: table.sizes, method.widths, method.texts. -/
section
namespace Go.Proofs.YtdogcnadopepmaaDoor.M
open Go.RowKit Go.Proofs.YtdogcnadopepmaaDoorW.PrintWords Go.Proofs.YtdogcnadopepmaaDoorW.PrintLast Go.Proofs.YtdogcnadopepmaaDoor.H

def sizesL : List (Int × Value) := [(116, .int .u64 1), (98, .int .u64 1), (66, .int .u64 1), (115, .int .u64 2), (117, .int .u64 2), (73, .int .u64 4), (105, .int .u64 4), (102, .int .u64 4), (108, .int .u64 8), (100, .int .u64 8), (84, .int .u64 8), (68, .int .u64 5), (86, .int .u64 0)]

set_option maxRecDepth 100000 in
set_option maxHeartbeats 2000000 in
theorem sizes_any (w : World) : Calls Tryd.prog 144 #[] w fun e w' => e = .returned (.map (some w.heap.size)) ∧ w' = w.alloc (.map (mkEs sizesL 0).toArray 13) := by
  have hmm := @run_makeMap Tryd.prog
  go_enter Tryd.func144, Tryd.ntmps144
  go_wp2_with (refine wpList_fill 13 213 5 54 Tryd.underlying213 Tryd.underlying5 (.tmp 1) rfl sizesL rfl (by decide) ?_; simp only [List.drop_succ_cons, List.drop_zero])
  go_ret
  exact ⟨rfl, rfl⟩

def widthsL : List (Int × Value) := [(111, .int .i64 1), (115, .int .i64 2), (108, .int .i64 4), (113, .int .i64 8), (98, .int .i64 0)]
def textsL : List (Int × Value) := [(83, .int .i64 255), (76, .int .i64 131072), (84, .int .i64 (-1))]

set_option maxRecDepth 100000 in
set_option maxHeartbeats 2000000 in
theorem widths_any (w : World) : Calls Tryd.prog 45 #[] w fun e w' => e = .returned (.map (some w.heap.size)) ∧ w' = w.alloc (.map (mkEs widthsL 0).toArray 5) := by
  have hmm := @run_makeMap Tryd.prog
  go_enter Tryd.func45, Tryd.ntmps45
  go_wp2_with (refine wpList_fill 5 92 5 90 Tryd.underlying92 Tryd.underlying5 (.tmp 1) rfl widthsL rfl (by decide) ?_; simp only [List.drop_succ_cons, List.drop_zero])
  go_ret
  exact ⟨rfl, rfl⟩

set_option maxRecDepth 100000 in
set_option maxHeartbeats 2000000 in
theorem texts_any (w : World) : Calls Tryd.prog 95 #[] w fun e w' => e = .returned (.map (some w.heap.size)) ∧ w' = w.alloc (.map (mkEs textsL 0).toArray 3) := by
  have hmm := @run_makeMap Tryd.prog
  go_enter Tryd.func95, Tryd.ntmps95
  go_wp2_with (refine wpList_fill 3 161 5 160 Tryd.underlying161 Tryd.underlying5 (.tmp 1) rfl textsL rfl (by decide) ?_; simp only [List.drop_succ_cons, List.drop_zero])
  go_ret
  exact ⟨rfl, rfl⟩
end Go.Proofs.YtdogcnadopepmaaDoor.M
end

/- Tables: the functions that take them, as plain functions with a bound on their depth; what a taker holds. -/
section
namespace Go.Proofs.YtdogcnadopepmaaDoor.M
open Go.RowKit Go.Proofs.YtdogcnadopepmaaDoorW.PrintWords Go.Proofs.YtdogcnadopepmaaDoorW.PrintLast Go.Proofs.YtdogcnadopepmaaDoor.H

/-- How many bytes a value of a kind has, if always as many. -/
def kindSize (c : Int) : Option Int :=
  if c = 116 then some 1 else if c = 98 then some 1 else if c = 66 then some 1 else if c = 115 then some 2 else if c = 117 then some 2 else if c = 73 then some 4 else if c = 105 then some 4 else if c = 102 then some 4
  else if c = 108 then some 8 else if c = 100 then some 8 else if c = 84 then some 8 else if c = 68 then some 5 else if c = 86 then some 0 else none
theorem kv_sizes (c : Int) : kv sizesL c = (kindSize c).map (.int .u64) := by
  simp only [sizesL, kv, kindSize, apply_ite (Option.map (Value.int .u64)), Option.map_some, Option.map_none]

mutual
def table_value.f : Nat → ByteArray → Int → Option (ByteArray × Int)
  | 0, _, _ => none
  | k + 1, s, d =>
    if s.size = 0 then some (⟨#[]⟩, 2) else
    match kindSize (bt s 0) with
    | some n => (num_Skip.f (s.extract 1 s.size) n).bind fun t => some (t.2.1, t.2.2)
    | none =>
      if bt s 0 = 83 ∨ bt s 0 = 120 then (text_TakeLong.f k (s.extract 1 s.size)).bind fun t => some (t.2.1, t.2.2)
      else if bt s 0 = 65 then table_within.f k (s.extract 1 s.size) (d + 1) false
      else if bt s 0 = 70 then table_within.f k (s.extract 1 s.size) (d + 1) true
      else some (⟨#[]⟩, 3)
def table_field.f : Nat → ByteArray → Int → Option (ByteArray × Int)
  | 0, _, _ => none
  | k + 1, s, d => (text_TakeShort.f k s).bind fun t => if t.2.2 = 0 then table_value.f k t.2.1 d else some (⟨#[]⟩, t.2.2)
def table_within.f : Nat → ByteArray → Int → Bool → Option (ByteArray × Int)
  | 0, _, _, _ => none
  | k + 1, s, d, fld => (num_Take.f k s 4).bind fun t =>
      if t.2.2 = 0 then (num_Skip.f t.2.1 t.1).bind fun u =>
        if u.2.2 = 0 then (if d > 32 then some (⟨#[]⟩, 5) else (table_items.f k u.1 d fld).bind fun e => some (u.2.1, e))
        else some (⟨#[]⟩, u.2.2)
      else some (⟨#[]⟩, t.2.2)
def table_items.f : Nat → ByteArray → Int → Bool → Option Int
  | 0, _, _, _ => none
  | k + 1, s, d, fld => if s.size = 0 then some 0 else
      (if fld then table_field.f k s d else table_value.f k s d).bind fun t =>
        if t.2 = 2 then some 3 else if t.2 = 0 then table_items.f k t.1 d fld else some t.2
end

/-- What a taker holds: its map, how deep it was. -/
structure Tk (n g r : Nat) (W : World) : Prop where
  hn : 0 < n
  hg : n ≤ g
  hr : n ≤ r
  bl : ∃ d : Int, BlockIs W g 216 #[.map (some r), .int .i64 d]
  mp : MapIs W r (kv sizesL)
  wd : Wd W

theorem Tk.drewN {n g r : Nat} {W : World} (h : Tk n g r W) (m : Nat) : Tk n g r (W.drewN m) := ⟨h.hn, h.hg, h.hr, h.bl, h.mp, h.wd.drewN m⟩

/-- What a call of a taker's leaves. -/
def TkPost (n g r : Nat) (r1 : ByteArray) (e1 : Int) (W : World) (e : Ending) (W' : World) : Prop :=
  e = .returned (.tuple #[.string r1, .int .i64 e1]) ∧ Tk n g r W' ∧ Below n W W'

def ValueOk (k : Nat) : Prop := ∀ (n g r : Nat) (s : ByteArray) (d : Int) (r1 : ByteArray) (e1 : Int) (W : World), Tk n g r W → 0 ≤ d → d ≤ 32 → table_value.f k s d = some (r1, e1) →
  Calls Tryd.prog 161 #[.pointer (some ⟨g, 0, none⟩), .string s, .int .i64 d] W (TkPost n g r r1 e1 W)
def FieldOk (k : Nat) : Prop := ∀ (n g r : Nat) (s : ByteArray) (d : Int) (r1 : ByteArray) (e1 : Int) (W : World), Tk n g r W → 0 ≤ d → d ≤ 32 → table_field.f k s d = some (r1, e1) →
  Calls Tryd.prog 146 #[.pointer (some ⟨g, 0, none⟩), .string s, .int .i64 d] W (TkPost n g r r1 e1 W)
def WithinOk (k : Nat) : Prop := ∀ (n g r : Nat) (s : ByteArray) (d : Int) (fld : Bool) (r1 : ByteArray) (e1 : Int) (W : World), Tk n g r W → 0 ≤ d → d ≤ 33 → table_within.f k s d fld = some (r1, e1) →
  Calls Tryd.prog 145 #[.pointer (some ⟨g, 0, none⟩), .string s, .int .i64 d, .func (.func (if fld then 146 else 161)) #[.pointer (some ⟨g, 0, none⟩)] #[]] W (TkPost n g r r1 e1 W)

set_option maxRecDepth 100000 in
set_option maxHeartbeats 4000000 in
theorem field_step (k : Nat) (hv : ValueOk k) : FieldOk (k + 1) := by
  intro n g r s d r1 e1 W ht h0 h1 h
  have H : ((text_TakeShort.f k s).bind fun t => if t.2.2 = 0 then table_value.f k t.2.1 d else some (⟨#[]⟩, t.2.2)) = some (r1, e1) := by simpa only [table_field.f] using h
  clear h
  obtain ⟨⟨t1, t2, t3⟩, hA, H⟩ := Option.bind_eq_some_iff.1 H
  have C := text_TakeShort.calls k s t1 t2 t3 W hA ht.wd
  dsimp only at H
  have HT := Lib.hid ht
  have HC := Lib.hid C
  have HA := Lib.hid hA
  clear C ht hA
  by_cases c : t3 = 0
  · rw [if_pos c] at H
    subst c
    have HV := fun m => hv n g r t2 d r1 e1 (W.drewN m) (HT.out.drewN m) h0 h1 H
    have HV2 := Lib.hid HV
    clear HV hv H
    have HH0 := Lib.hid h0
    have HH1 := Lib.hid h1
    clear h0 h1
    go_enter Tryd.func146, Tryd.ntmps146
    go_wp2_with (first | (go_at_call 120; refine HC.out.mono ?_; rintro e w' ⟨rfl, ⟨m, rfl⟩⟩) | (go_at_call 161; refine (HV2.out _).mono ?_; rintro e w' ⟨rfl, hk, hb⟩; have HK := Lib.hid hk; have HB := Lib.hid hb; clear hk hb))
    go_ret2
    exact ⟨rfl, HK.out, (pw_below_drewN (Below.refl n W) m).trans HB.out⟩
  · rw [if_neg c] at H
    simp only [Option.some.injEq, Prod.mk.injEq] at H
    obtain ⟨rfl, rfl⟩ := H
    have c1 : (t3 != 0) = true := bne_iff_ne.2 c
    clear hv h0 h1
    go_enter Tryd.func146, Tryd.ntmps146
    go_wp2_with (go_at_call 120; refine HC.out.mono ?_; rintro e w' ⟨rfl, ⟨m, rfl⟩⟩)
    go_ret2
    exact ⟨rfl, HT.out.drewN m, pw_below_drewN (Below.refl n W) m⟩

theorem toList_ne (s : ByteArray) (h : 0 < s.size) : s.toList.isEmpty = false := by
  rw [ByteArray.toList_eq]
  cases hl : s.data.toList with
  | nil =>
    have : s.data.toList.length = s.size := by rw [Array.length_toList]; rfl
    rw [hl] at this
    simp at this
    omega
  | cons a l => rfl
theorem size_zero (s : ByteArray) (h : s.size = 0) : s = ⟨#[]⟩ := by
  cases s with
  | mk d => exact congrArg ByteArray.mk (Array.eq_empty_of_size_eq_zero h)
theorem bt_pos (s : ByteArray) (h : 0 < s.size) : ∀ hh : 0 < s.size, ((s[0]'hh).toNat : Int) = bt s 0 := fun hh => by simp [bt, h]

set_option maxRecDepth 100000 in
set_option maxHeartbeats 4000000 in
theorem value_empty (n g r : Nat) (d : Int) (W : World) (ht : Tk n g r W) : Calls Tryd.prog 161 #[.pointer (some ⟨g, 0, none⟩), .string ⟨#[]⟩, .int .i64 d] W (TkPost n g r ⟨#[]⟩ 2 W) := by
  have HT := Lib.hid ht
  clear ht
  go_enter Tryd.func161, Tryd.ntmps161
  go_wp2
  go_ret2
  exact ⟨rfl, HT.out, Below.refl _ _⟩

set_option maxRecDepth 100000 in
set_option maxHeartbeats 4000000 in
/-- A kind that always has as many bytes. -/
theorem value_sized (n g r : Nat) (s : ByteArray) (d : Int) (z : Int) (r1 r2 : ByteArray) (e1 : Int) (W : World) (ht : Tk n g r W) (hs : 0 < s.size) (hz : kindSize (bt s 0) = some z)
    (hk : num_Skip.f (s.extract 1 s.size) z = some (r1, r2, e1)) :
    Calls Tryd.prog 161 #[.pointer (some ⟨g, 0, none⟩), .string s, .int .i64 d] W (TkPost n g r r2 e1 W) := by
  obtain ⟨dd, hb⟩ := ht.bl
  have hc0 := hb.cell 0
  simp only [List.getElem?_toArray, List.getElem?_cons_zero] at hc0
  have hl : ∀ m, (Instr.lookup 213 (.map (some r)) (.int .u8 (bt s 0)) true).run Tryd.prog (W.drewN m) = .ok (.tuple #[.int .u64 z, .bool true]) (W.drewN m) := fun m => by
    have := (ht.drewN m).mp.lookup (P := Tryd.prog) (z := .int .u64 0) Tryd.underlying213 Tryd.underlying5 (by kernel_rfl) (bt s 0) true
    rw [kv_sizes, hz] at this
    simpa using this
  have hbt := bt_pos s hs
  have C := fun m => num_Skip.calls (s.extract 1 s.size) z r1 r2 e1 (W.drewN m) hk
  have HT := Lib.hid ht
  have HC := Lib.hid C
  have HZ := Lib.hid hz
  have HK := Lib.hid hk
  have HB := Lib.hid hb
  clear ht C hz hk hb
  have hne := toList_ne s hs
  go_enter Tryd.func161, Tryd.ntmps161
  go_wp2
  go_quiet (fail)
  go_wp2_with (go_at_call 160; refine (HC.out _).mono ?_; rintro e w' ⟨rfl, hdr⟩; have HD := Lib.hid hdr; clear hdr)
  go_ret2
  obtain ⟨m, rfl⟩ := HD.out.out
  exact ⟨rfl, (HT.out.drewN _).drewN m, pw_below_drewN (pw_below_drewN (Below.refl n W) _) m⟩

set_option maxRecDepth 100000 in
set_option maxHeartbeats 8000000 in
/-- Texts, rows, tables; and what is none of these. -/
theorem value_other (k n g r : Nat) (s : ByteArray) (d : Int) (r1 : ByteArray) (e1 : Int) (W : World) (hw : WithinOk k) (ht : Tk n g r W) (hs : 0 < s.size) (h0 : 0 ≤ d) (h1 : d ≤ 32) (hz : kindSize (bt s 0) = none)
    (H : (if bt s 0 = 83 ∨ bt s 0 = 120 then (text_TakeLong.f k (s.extract 1 s.size)).bind fun t => some (t.2.1, t.2.2)
      else if bt s 0 = 65 then table_within.f k (s.extract 1 s.size) (d + 1) false
      else if bt s 0 = 70 then table_within.f k (s.extract 1 s.size) (d + 1) true
      else some (⟨#[]⟩, 3)) = some (r1, e1)) :
    Calls Tryd.prog 161 #[.pointer (some ⟨g, 0, none⟩), .string s, .int .i64 d] W (TkPost n g r r1 e1 W) := by
  obtain ⟨dd, hb⟩ := ht.bl
  have hc0 := hb.cell 0
  simp only [List.getElem?_toArray, List.getElem?_cons_zero] at hc0
  have hl : ∀ m, (Instr.lookup 213 (.map (some r)) (.int .u8 (bt s 0)) true).run Tryd.prog (W.drewN m) = .ok (.tuple #[.int .u64 0, .bool false]) (W.drewN m) := fun m => by
    have := (ht.drewN m).mp.lookup (P := Tryd.prog) (z := .int .u64 0) Tryd.underlying213 Tryd.underlying5 (by kernel_rfl) (bt s 0) true
    rw [kv_sizes, hz] at this
    simpa using this
  have hbt := bt_pos s hs
  have hne := toList_ne s hs
  have HT := Lib.hid ht
  have HZ := Lib.hid hz
  have HB := Lib.hid hb
  clear ht hz hb
  by_cases c1 : bt s 0 = 83 ∨ bt s 0 = 120
  · rw [if_pos c1] at H
    obtain ⟨⟨t1, t2, t3⟩, hA, H⟩ := Option.bind_eq_some_iff.1 H
    simp only [Option.some.injEq, Prod.mk.injEq] at H
    obtain ⟨rfl, rfl⟩ := H
    have C := fun m => text_TakeLong.calls k (s.extract 1 s.size) t1 t2 t3 (W.drewN m) hA (HT.out.wd.drewN m)
    have HC := Lib.hid C
    clear C hA hw h0 h1
    by_cases c2 : bt s 0 = 83
    · have c3 : (bt s 0 == 83) = true := beq_iff_eq.2 c2
      have HC2 := Lib.hid c2
      clear c1 c2
      go_enter Tryd.func161, Tryd.ntmps161
      go_wp2
      go_quiet (fail)
      go_wp2_with (go_at_call 121; refine (HC.out _).mono ?_; rintro e w' ⟨rfl, hdr⟩; have HD := Lib.hid hdr; clear hdr)
      go_ret2
      obtain ⟨m, rfl⟩ := HD.out.out
      exact ⟨rfl, (HT.out.drewN _).drewN m, pw_below_drewN (pw_below_drewN (Below.refl n W) _) m⟩
    · have c3 : (bt s 0 == 83) = false := beq_eq_false_iff_ne.2 c2
      have c4 : (bt s 0 == 120) = true := beq_iff_eq.2 (c1.resolve_left c2)
      clear c1 c2
      go_enter Tryd.func161, Tryd.ntmps161
      go_wp2
      go_quiet (fail)
      go_wp2_with (go_at_call 121; refine (HC.out _).mono ?_; rintro e w' ⟨rfl, hdr⟩; have HD := Lib.hid hdr; clear hdr)
      go_ret2
      obtain ⟨m, rfl⟩ := HD.out.out
      exact ⟨rfl, (HT.out.drewN _).drewN m, pw_below_drewN (pw_below_drewN (Below.refl n W) _) m⟩
  · rw [if_neg c1] at H
    have c3 : (bt s 0 == 83) = false := beq_eq_false_iff_ne.2 (fun e => c1 (.inl e))
    have c4 : (bt s 0 == 120) = false := beq_eq_false_iff_ne.2 (fun e => c1 (.inr e))
    clear c1
    by_cases c5 : bt s 0 = 65
    · rw [if_pos c5] at H
      have c6 : (bt s 0 == 65) = true := beq_iff_eq.2 c5
      have C := fun m => hw n g r (s.extract 1 s.size) (d + 1) false r1 e1 (W.drewN m) (HT.out.drewN m) (by omega) (by omega) H
      simp only [Bool.false_eq_true, if_false] at C
      have HC := Lib.hid C
      clear C H hw c5
      go_enter Tryd.func161, Tryd.ntmps161
      go_wp2
      go_quiet (fail)
      go_wp2_with (go_at_call 145; refine (HC.out _).mono ?_; rintro e w' ⟨rfl, hk, hb⟩; have HK := Lib.hid hk; have HBB := Lib.hid hb; clear hk hb)
      go_ret2
      exact ⟨rfl, HK.out, (pw_below_drewN (Below.refl n W) _).trans HBB.out⟩
    · rw [if_neg c5] at H
      have c6 : (bt s 0 == 65) = false := beq_eq_false_iff_ne.2 c5
      clear c5
      by_cases c5 : bt s 0 = 70
      · rw [if_pos c5] at H
        have c7 : (bt s 0 == 70) = true := beq_iff_eq.2 c5
        have C := fun m => hw n g r (s.extract 1 s.size) (d + 1) true r1 e1 (W.drewN m) (HT.out.drewN m) (by omega) (by omega) H
        simp only [if_true] at C
        have HC := Lib.hid C
        clear C H hw c5
        go_enter Tryd.func161, Tryd.ntmps161
        go_wp2
        go_quiet (fail)
        go_wp2_with (go_at_call 145; refine (HC.out _).mono ?_; rintro e w' ⟨rfl, hk, hb⟩; have HK := Lib.hid hk; have HBB := Lib.hid hb; clear hk hb)
        go_ret2
        exact ⟨rfl, HK.out, (pw_below_drewN (Below.refl n W) _).trans HBB.out⟩
      · rw [if_neg c5] at H
        have c7 : (bt s 0 == 70) = false := beq_eq_false_iff_ne.2 c5
        simp only [Option.some.injEq, Prod.mk.injEq] at H
        obtain ⟨rfl, rfl⟩ := H
        clear hw c5
        go_enter Tryd.func161, Tryd.ntmps161
        go_wp2
        go_quiet (fail)
        go_wp2
        go_ret2
        exact ⟨rfl, HT.out.drewN _, pw_below_drewN (Below.refl n W) _⟩

theorem value_step (k : Nat) (hw : WithinOk k) : ValueOk (k + 1) := by
  intro n g r s d r1 e1 W ht h0 h1 h
  simp only [table_value.f] at h
  by_cases hs : s.size = 0
  · rw [if_pos hs] at h
    simp only [Option.some.injEq, Prod.mk.injEq] at h
    obtain ⟨rfl, rfl⟩ := h
    obtain rfl := size_zero s hs
    exact value_empty n g r d W ht
  · rw [if_neg hs] at h
    cases hz : kindSize (bt s 0) with
    | some z =>
      rw [hz] at h
      obtain ⟨⟨t1, t2, t3⟩, hA, H⟩ := Option.bind_eq_some_iff.1 h
      simp only [Option.some.injEq, Prod.mk.injEq] at H
      obtain ⟨rfl, rfl⟩ := H
      exact value_sized n g r s d z t1 t2 t3 W ht (by omega) hz hA
    | none =>
      rw [hz] at h
      exact value_other k n g r s d r1 e1 W hw ht (by omega) h0 h1 hz h
end Go.Proofs.YtdogcnadopepmaaDoor.M
end

/- table.Take: what stands within a length, by induction on the bound; the table. -/
section
namespace Go.Proofs.YtdogcnadopepmaaDoor.M
open Go.RowKit Go.Proofs.YtdogcnadopepmaaDoorW.PrintWords Go.Proofs.YtdogcnadopepmaaDoorW.PrintLast Go.Proofs.YtdogcnadopepmaaDoorW.PrintMore Go.Proofs.YtdogcnadopepmaaDoor.H
attribute [local go_sem] max2_int max_two
set_option linter.unusedVariables false
set_option linter.unusedSimpArgs false

theorem Tk.setDepth {n g r : Nat} {W : World} (h : Tk n g r W) (d : Int) : Tk n g r (W.setCell ⟨g, 1, none⟩ (.int .i64 d)) := by
  obtain ⟨dd, hb⟩ := h.bl
  have h1 := h.hn
  have h2 := h.hg
  exact ⟨h.hn, h.hg, h.hr, ⟨d, hb.set 1 _⟩, h.mp.setCell _ _, ⟨h.wd.at_.imp fun t e => (Below.heap_setCell W _ _ 0 (by simp; omega)).trans e⟩⟩

set_option maxRecDepth 100000 in
set_option maxHeartbeats 8000000 in
theorem within_walk161 (k n g r : Nat) (s : ByteArray) (d : Int) (t1 : Int) (t2 u1 u2 : ByteArray) (e1 : Int) (W : World)
    (hone : ∀ j, j < k → ∀ (x : ByteArray) (x1 : ByteArray) (b : Int) (W1 : World), Tk n g r W1 → table_value.f j x d = some (x1, b) →
      Calls Tryd.prog 161 #[.pointer (some ⟨g, 0, none⟩), .string x, .int .i64 d] W1 (TkPost n g r x1 b W1))
    (ht : Tk n g r W) (h0 : 0 ≤ d) (h1 : d ≤ 32)
    (hA : num_Take.f k s 4 = some (t1, t2, 0)) (hB : num_Skip.f t2 t1 = some (u1, u2, 0)) (hI : table_items.f k u1 d false = some e1) :
    Calls Tryd.prog 145 #[.pointer (some ⟨g, 0, none⟩), .string s, .int .i64 d, .func (.func 161) #[.pointer (some ⟨g, 0, none⟩)] #[]] W (TkPost n g r u2 e1 W) := by
  have C1 := num_Take.calls k s 4 t1 t2 0 W hA ht.wd
  have C2 := fun W' => num_Skip.calls t2 t1 u1 u2 0 W' hB
  obtain ⟨dd, hb⟩ := ht.bl
  have hc1 := hb.cell 1
  have hf1 := hb.frozen 1
  simp only [List.getElem?_toArray, List.getElem?_cons_zero, List.getElem?_cons_succ] at hc1
  have HC1 := Lib.hid C1
  have HC2 := Lib.hid C2
  have HT := Lib.hid ht
  have HO := Lib.hid hone
  have HI := Lib.hid hI
  clear C1 C2 ht hone hA hB hI hb
  obtain ⟨mx, hmx⟩ : ∃ mx, (if dd < d then d else dd) = mx := ⟨_, rfl⟩
  go_enter Tryd.func145, Tryd.ntmps145
  go_wp2
  go_step3
  go_wp2_with (first | (go_at_call 85; refine HC1.out.mono ?_; rintro e w' ⟨rfl, ⟨m1, rfl⟩⟩) | (go_at_call 160; refine (HC2.out _).mono ?_; rintro e w' ⟨rfl, ⟨m2, rfl⟩⟩))
  go_step3
  go_wp2
  clear hc1 hf1 hmx
  go_loopg [12, 13] k (fun kq v12 v13 wr => ∃ x : ByteArray, v12 = .int .i64 0 ∧ v13 = .string x ∧ Aside0 (table_items.f kq x d false = some e1) ∧ Aside0 (kq ≤ k) ∧ Aside0 (Tk n g r wr) ∧ Aside0 (Below n W wr))
  case atStart => exact ⟨u1, rfl, rfl, ⟨HI.out⟩, ⟨Nat.le_refl _⟩, ⟨(HT.out.drewN _).setDepth mx⟩, ⟨(pw_below_drewN (Below.refl n W) _).setCell (p := ⟨g, 1, none⟩) HT.out.hg _⟩⟩
  case round =>
    obtain ⟨x, rfl, rfl, HA, HK1, hT, hB⟩ := hrel
    cases gk with
    | zero => exact absurd HA.out (by simp [table_items.f])
    | succ k1 =>
      have H := HA.out
      clear HA
      simp only [table_items.f] at H
      by_cases c6 : x.size = 0
      · rw [if_pos c6] at H
        simp only [Option.some.injEq] at H
        obtain rfl := size_zero x c6
        clear c6
        subst H
        go_wp2
        rw [Exit.noGoto_ret]
        go_ret2
        exact ⟨rfl, hT.out, hB.out⟩
      · rw [if_neg c6] at H
        simp only [Bool.false_eq_true, if_false, if_true] at H
        obtain ⟨⟨x1, b⟩, hX, H⟩ := Option.bind_eq_some_iff.1 H
        have hne := toList_ne x (by omega)
        have C := HO.out k1 (by have := HK1.out; omega) x x1 b wr hT.out hX
        have HC := Lib.hid C
        dsimp only at H
        clear C hX c6 HO HI
        by_cases c7 : b = 2
        · subst c7
          simp only [if_true, Option.some.injEq] at H
          subst H
          go_wp2_with (go_at_call 161; refine HC.out.mono ?_; rintro e w' ⟨rfl, hk, hb⟩; have HK := Lib.hid hk; have HBB := Lib.hid hb; clear hk hb)
          rw [Exit.noGoto_ret]
          go_ret2
          exact ⟨rfl, HK.out, hB.out.trans HBB.out⟩
        · rw [if_neg c7] at H
          have c7b : (b == 2) = false := beq_eq_false_iff_ne.2 c7
          by_cases c8 : b = 0
          · subst c8
            simp only [if_true] at H
            have H' := Aside0.mk H
            clear H c7 c7b
            go_wp2_with (go_at_call 161; refine HC.out.mono ?_; rintro e w' ⟨rfl, hk, hb⟩; have HK := Lib.hid hk; have HBB := Lib.hid hb; clear hk hb)
            go_roundg k1
            case measure => omega
            case rel => exact ⟨x1, rfl, rfl, H', ⟨by have := HK1.out; omega⟩, ⟨HK.out⟩, ⟨hB.out.trans HBB.out⟩⟩
          · rw [if_neg c8] at H
            simp only [Option.some.injEq] at H
            subst H
            have c8b : (b != 0) = true := bne_iff_ne.2 c8
            clear c7 c8
            go_wp2_with (go_at_call 161; refine HC.out.mono ?_; rintro e w' ⟨rfl, hk, hb⟩; have HK := Lib.hid hk; have HBB := Lib.hid hb; clear hk hb)
            rw [Exit.noGoto_ret]
            go_ret2
            exact ⟨rfl, HK.out, hB.out.trans HBB.out⟩

set_option maxRecDepth 100000 in
set_option maxHeartbeats 8000000 in
theorem within_walk146 (k n g r : Nat) (s : ByteArray) (d : Int) (t1 : Int) (t2 u1 u2 : ByteArray) (e1 : Int) (W : World)
    (hone : ∀ j, j < k → ∀ (x : ByteArray) (x1 : ByteArray) (b : Int) (W1 : World), Tk n g r W1 → table_field.f j x d = some (x1, b) →
      Calls Tryd.prog 146 #[.pointer (some ⟨g, 0, none⟩), .string x, .int .i64 d] W1 (TkPost n g r x1 b W1))
    (ht : Tk n g r W) (h0 : 0 ≤ d) (h1 : d ≤ 32)
    (hA : num_Take.f k s 4 = some (t1, t2, 0)) (hB : num_Skip.f t2 t1 = some (u1, u2, 0)) (hI : table_items.f k u1 d true = some e1) :
    Calls Tryd.prog 145 #[.pointer (some ⟨g, 0, none⟩), .string s, .int .i64 d, .func (.func 146) #[.pointer (some ⟨g, 0, none⟩)] #[]] W (TkPost n g r u2 e1 W) := by
  have C1 := num_Take.calls k s 4 t1 t2 0 W hA ht.wd
  have C2 := fun W' => num_Skip.calls t2 t1 u1 u2 0 W' hB
  obtain ⟨dd, hb⟩ := ht.bl
  have hc1 := hb.cell 1
  have hf1 := hb.frozen 1
  simp only [List.getElem?_toArray, List.getElem?_cons_zero, List.getElem?_cons_succ] at hc1
  have HC1 := Lib.hid C1
  have HC2 := Lib.hid C2
  have HT := Lib.hid ht
  have HO := Lib.hid hone
  have HI := Lib.hid hI
  clear C1 C2 ht hone hA hB hI hb
  obtain ⟨mx, hmx⟩ : ∃ mx, (if dd < d then d else dd) = mx := ⟨_, rfl⟩
  go_enter Tryd.func145, Tryd.ntmps145
  go_wp2
  go_step3
  go_wp2_with (first | (go_at_call 85; refine HC1.out.mono ?_; rintro e w' ⟨rfl, ⟨m1, rfl⟩⟩) | (go_at_call 160; refine (HC2.out _).mono ?_; rintro e w' ⟨rfl, ⟨m2, rfl⟩⟩))
  go_step3
  go_wp2
  clear hc1 hf1 hmx
  go_loopg [12, 13] k (fun kq v12 v13 wr => ∃ x : ByteArray, v12 = .int .i64 0 ∧ v13 = .string x ∧ Aside0 (table_items.f kq x d true = some e1) ∧ Aside0 (kq ≤ k) ∧ Aside0 (Tk n g r wr) ∧ Aside0 (Below n W wr))
  case atStart => exact ⟨u1, rfl, rfl, ⟨HI.out⟩, ⟨Nat.le_refl _⟩, ⟨(HT.out.drewN _).setDepth mx⟩, ⟨(pw_below_drewN (Below.refl n W) _).setCell (p := ⟨g, 1, none⟩) HT.out.hg _⟩⟩
  case round =>
    obtain ⟨x, rfl, rfl, HA, HK1, hT, hB⟩ := hrel
    cases gk with
    | zero => exact absurd HA.out (by simp [table_items.f])
    | succ k1 =>
      have H := HA.out
      clear HA
      simp only [table_items.f] at H
      by_cases c6 : x.size = 0
      · rw [if_pos c6] at H
        simp only [Option.some.injEq] at H
        obtain rfl := size_zero x c6
        clear c6
        subst H
        go_wp2
        rw [Exit.noGoto_ret]
        go_ret2
        exact ⟨rfl, hT.out, hB.out⟩
      · rw [if_neg c6] at H
        simp only [Bool.false_eq_true, if_false, if_true] at H
        obtain ⟨⟨x1, b⟩, hX, H⟩ := Option.bind_eq_some_iff.1 H
        have hne := toList_ne x (by omega)
        have C := HO.out k1 (by have := HK1.out; omega) x x1 b wr hT.out hX
        have HC := Lib.hid C
        dsimp only at H
        clear C hX c6 HO HI
        by_cases c7 : b = 2
        · subst c7
          simp only [if_true, Option.some.injEq] at H
          subst H
          go_wp2_with (go_at_call 146; refine HC.out.mono ?_; rintro e w' ⟨rfl, hk, hb⟩; have HK := Lib.hid hk; have HBB := Lib.hid hb; clear hk hb)
          rw [Exit.noGoto_ret]
          go_ret2
          exact ⟨rfl, HK.out, hB.out.trans HBB.out⟩
        · rw [if_neg c7] at H
          have c7b : (b == 2) = false := beq_eq_false_iff_ne.2 c7
          by_cases c8 : b = 0
          · subst c8
            simp only [if_true] at H
            have H' := Aside0.mk H
            clear H c7 c7b
            go_wp2_with (go_at_call 146; refine HC.out.mono ?_; rintro e w' ⟨rfl, hk, hb⟩; have HK := Lib.hid hk; have HBB := Lib.hid hb; clear hk hb)
            go_roundg k1
            case measure => omega
            case rel => exact ⟨x1, rfl, rfl, H', ⟨by have := HK1.out; omega⟩, ⟨HK.out⟩, ⟨hB.out.trans HBB.out⟩⟩
          · rw [if_neg c8] at H
            simp only [Option.some.injEq] at H
            subst H
            have c8b : (b != 0) = true := bne_iff_ne.2 c8
            clear c7 c8
            go_wp2_with (go_at_call 146; refine HC.out.mono ?_; rintro e w' ⟨rfl, hk, hb⟩; have HK := Lib.hid hk; have HBB := Lib.hid hb; clear hk hb)
            rw [Exit.noGoto_ret]
            go_ret2
            exact ⟨rfl, HK.out, hB.out.trans HBB.out⟩

set_option maxRecDepth 100000 in
set_option maxHeartbeats 8000000 in
theorem within_few (n g r : Nat) (s : ByteArray) (d : Int) (v : Value) (k : Nat) (t1 : Int) (t2 : ByteArray) (e1 : Int) (W : World) (ht : Tk n g r W) (hA : num_Take.f k s 4 = some (t1, t2, e1)) (he : e1 ≠ 0) :
    Calls Tryd.prog 145 #[.pointer (some ⟨g, 0, none⟩), .string s, .int .i64 d, v] W (TkPost n g r ⟨#[]⟩ e1 W) := by
  have C1 := num_Take.calls k s 4 t1 t2 e1 W hA ht.wd
  have HC1 := Lib.hid C1
  have HT := Lib.hid ht
  have c1 : (e1 != 0) = true := bne_iff_ne.2 he
  clear C1 ht hA he
  go_enter Tryd.func145, Tryd.ntmps145
  go_wp2
  go_step3
  go_wp2_with (go_at_call 85; refine HC1.out.mono ?_; rintro e w' ⟨rfl, ⟨m1, rfl⟩⟩)
  rw [Exit.noGoto_ret]
  go_ret2
  exact ⟨rfl, HT.out.drewN m1, pw_below_drewN (Below.refl n W) m1⟩
set_option maxRecDepth 100000 in
set_option maxHeartbeats 8000000 in
theorem within_cut (n g r : Nat) (s : ByteArray) (d : Int) (v : Value) (k : Nat) (t1 : Int) (t2 u1 u2 : ByteArray) (e1 : Int) (W : World) (ht : Tk n g r W) (hA : num_Take.f k s 4 = some (t1, t2, 0)) (hB : num_Skip.f t2 t1 = some (u1, u2, e1)) (he : e1 ≠ 0) :
    Calls Tryd.prog 145 #[.pointer (some ⟨g, 0, none⟩), .string s, .int .i64 d, v] W (TkPost n g r ⟨#[]⟩ e1 W) := by
  have C1 := num_Take.calls k s 4 t1 t2 0 W hA ht.wd
  have C2 := fun W' => num_Skip.calls t2 t1 u1 u2 e1 W' hB
  have HC1 := Lib.hid C1
  have HC2 := Lib.hid C2
  have HT := Lib.hid ht
  have c1 : (e1 != 0) = true := bne_iff_ne.2 he
  clear C1 C2 ht hA hB he
  go_enter Tryd.func145, Tryd.ntmps145
  go_wp2
  go_step3
  go_wp2_with (first | (go_at_call 85; refine HC1.out.mono ?_; rintro e w' ⟨rfl, ⟨m1, rfl⟩⟩) | (go_at_call 160; refine (HC2.out _).mono ?_; rintro e w' ⟨rfl, ⟨m2, rfl⟩⟩))
  rw [Exit.noGoto_ret]
  go_ret2
  exact ⟨rfl, (HT.out.drewN _), pw_below_drewN (Below.refl n W) _⟩
set_option maxRecDepth 100000 in
set_option maxHeartbeats 8000000 in
theorem within_deep (n g r : Nat) (s : ByteArray) (d : Int) (v : Value) (k : Nat) (t1 : Int) (t2 u1 u2 : ByteArray) (W : World) (ht : Tk n g r W) (hd : d > 32) (hA : num_Take.f k s 4 = some (t1, t2, 0)) (hB : num_Skip.f t2 t1 = some (u1, u2, 0)) :
    Calls Tryd.prog 145 #[.pointer (some ⟨g, 0, none⟩), .string s, .int .i64 d, v] W (TkPost n g r ⟨#[]⟩ 5 W) := by
  have C1 := num_Take.calls k s 4 t1 t2 0 W hA ht.wd
  have C2 := fun W' => num_Skip.calls t2 t1 u1 u2 0 W' hB
  have HC1 := Lib.hid C1
  have HC2 := Lib.hid C2
  have HT := Lib.hid ht
  have c1 : decide (32 < d) = true := decide_eq_true hd
  clear C1 C2 ht hA hB hd
  go_enter Tryd.func145, Tryd.ntmps145
  go_wp2
  go_step3
  go_wp2_with (first | (go_at_call 85; refine HC1.out.mono ?_; rintro e w' ⟨rfl, ⟨m1, rfl⟩⟩) | (go_at_call 160; refine (HC2.out _).mono ?_; rintro e w' ⟨rfl, ⟨m2, rfl⟩⟩))
  rw [Exit.noGoto_ret]
  go_ret2
  exact ⟨rfl, (HT.out.drewN _), pw_below_drewN (Below.refl n W) _⟩

theorem within_step (k : Nat) (hv : ∀ j, j < k → ValueOk j) (hf : ∀ j, j < k → FieldOk j) : WithinOk (k + 1) := by
  intro n g r s d fld r1 e1 W ht h0 h1 h
  simp only [table_within.f] at h
  obtain ⟨⟨t1, t2, t3⟩, hA, h⟩ := Option.bind_eq_some_iff.1 h
  dsimp only at h
  by_cases c : t3 = 0
  · rw [if_pos c] at h
    subst c
    obtain ⟨⟨u1, u2, u3⟩, hB, h⟩ := Option.bind_eq_some_iff.1 h
    dsimp only at h
    by_cases c : u3 = 0
    · rw [if_pos c] at h
      subst c
      by_cases c : d > 32
      · rw [if_pos c] at h
        simp only [Option.some.injEq, Prod.mk.injEq] at h
        obtain ⟨rfl, rfl⟩ := h
        exact within_deep n g r s d _ k t1 t2 u1 u2 W ht c hA hB
      · rw [if_neg c] at h
        obtain ⟨e, hI, h⟩ := Option.bind_eq_some_iff.1 h
        simp only [Option.some.injEq, Prod.mk.injEq] at h
        obtain ⟨rfl, rfl⟩ := h
        cases fld with
        | true => exact within_walk146 k n g r s d t1 t2 u1 u2 e W (fun j hj x x1 b W1 ht1 hx => hf j hj n g r x d x1 b W1 ht1 h0 (by omega) hx) ht h0 (by omega) hA hB hI
        | false => exact within_walk161 k n g r s d t1 t2 u1 u2 e W (fun j hj x x1 b W1 ht1 hx => hv j hj n g r x d x1 b W1 ht1 h0 (by omega) hx) ht h0 (by omega) hA hB hI
    · rw [if_neg c] at h
      simp only [Option.some.injEq, Prod.mk.injEq] at h
      obtain ⟨rfl, rfl⟩ := h
      exact within_cut n g r s d _ k t1 t2 u1 u2 u3 W ht hA hB c
  · rw [if_neg c] at h
    simp only [Option.some.injEq, Prod.mk.injEq] at h
    obtain ⟨rfl, rfl⟩ := h
    exact within_few n g r s d _ k t1 t2 t3 W ht hA c

theorem all_ok : ∀ k, ValueOk k ∧ FieldOk k ∧ WithinOk k := by
  intro k
  induction k using Nat.strongRecOn with
  | ind k ih =>
    cases k with
    | zero =>
      refine ⟨?_, ?_, ?_⟩
      · intro n g r s d r1 e1 W _ _ _ h; simp [table_value.f] at h
      · intro n g r s d r1 e1 W _ _ _ h; simp [table_field.f] at h
      · intro n g r s d fld r1 e1 W _ _ _ h; simp [table_within.f] at h
    | succ k => exact ⟨value_step k (ih k (by omega)).2.2, field_step k (ih k (by omega)).1, within_step k (fun j hj => (ih j (by omega)).1) (fun j hj => (ih j (by omega)).2.1)⟩

theorem table_mono : ∀ k, (∀ s d, LeO (table_value.f k s d) (table_value.f (k + 1) s d)) ∧ (∀ s d, LeO (table_field.f k s d) (table_field.f (k + 1) s d)) ∧ (∀ s d b, LeO (table_within.f k s d b) (table_within.f (k + 1) s d b)) ∧ (∀ s d b, LeO (table_items.f k s d b) (table_items.f (k + 1) s d b)) := by
  intro k
  induction k with
  | zero => refine ⟨?_, ?_, ?_, ?_⟩ <;> (intros; intro r h; simp [table_value.f, table_field.f, table_within.f, table_items.f] at h)
  | succ k ih =>
    obtain ⟨i1, i2, i3, i4⟩ := ih
    refine ⟨?_, ?_, ?_, ?_⟩
    · intro s d
      rw [table_value.f, table_value.f]
      refine LeO.ite (LeO.refl _) ?_
      split
      · exact LeO.refl _
      · refine LeO.ite (LeO.bind (text_TakeLong.mono _ k) (fun _ => LeO.refl _)) (LeO.ite (i3 _ _ _) (LeO.ite (i3 _ _ _) (LeO.refl _)))
    · intro s d
      rw [table_field.f, table_field.f]
      exact LeO.bind (text_TakeShort.mono _ k) (fun t => LeO.ite (i1 _ _) (LeO.refl _))
    · intro s d b
      rw [table_within.f, table_within.f]
      exact LeO.bind (num_Take.mono _ _ k) (fun t => LeO.ite (LeO.bind (LeO.refl _) (fun u => LeO.ite (LeO.ite (LeO.refl _) (LeO.bind (i4 _ _ _) (fun _ => LeO.refl _))) (LeO.refl _))) (LeO.refl _))
    · intro s d b
      rw [table_items.f, table_items.f]
      refine LeO.ite (LeO.refl _) (LeO.bind ?_ (fun t => LeO.ite (LeO.refl _) (LeO.ite (i4 _ _ _) (LeO.refl _))))
      cases b
      · exact i1 _ _
      · exact i2 _ _
end Go.Proofs.YtdogcnadopepmaaDoor.M
end

/- table.Take: the table's own bytes, and what stands behind them. -/
section
namespace Go.Proofs.YtdogcnadopepmaaDoor.M
open Go.RowKit Go.Proofs.YtdogcnadopepmaaDoorW.PrintWords Go.Proofs.YtdogcnadopepmaaDoorW.PrintLast Go.Proofs.YtdogcnadopepmaaDoorW.PrintMore Go.Proofs.YtdogcnadopepmaaDoor.H
set_option linter.unusedVariables false
set_option linter.unusedSimpArgs false

def table_Take.f (k : Nat) (s : ByteArray) : Option (ByteArray × ByteArray × Int) := (table_within.f k s 1 true).bind fun t => table_taken.f s t.1 t.2
theorem table_Take.mono : ∀ a0 k, LeO (table_Take.f k a0) (table_Take.f (k + 1) a0) := fun a0 k => LeO.bind ((table_mono k).2.2.1 a0 1 true) (fun _ => LeO.refl _)

set_option maxRecDepth 100000 in
set_option maxHeartbeats 8000000 in
theorem table_Take.calls (k : Nat) (a0 : ByteArray) (r1 : ByteArray) (r2 : ByteArray) (r3 : Int) (w : World) (h : table_Take.f k a0 = some (r1, r2, r3)) (hWd : Wd w := by first | (with_reducible assumption) | exact hWd.drewN _ | exact Wd.up hWd (by repeat (first | (with_reducible first | exact HB.out | apply below_alloc | apply pw_below_drewN | apply below_drew1) | exact HB.out))) :
    Calls Tryd.prog 122 #[.string a0] w fun e w' => e = .returned (.tuple #[.string r1, .string r2, .int .i64 r3]) ∧ Below w.heap.size w w' := by
  obtain ⟨⟨x, e⟩, hX, hT⟩ := Option.bind_eq_some_iff.1 h
  have hpos := hWd.lt
  have hsz : (w.alloc (.map (mkEs sizesL 0).toArray 13)).heap.size = w.heap.size + 1 := by simp
  have ht : Tk (w.heap.size) (w.heap.size + 1) w.heap.size ((w.alloc (.map (mkEs sizesL 0).toArray 13)).alloc (.cells #[.map (some w.heap.size), .int .i64 0] 216)) :=
    ⟨hpos, by omega, Nat.le_refl _, ⟨0, hsz ▸ BlockIs.new (w.alloc (.map (mkEs sizesL 0).toArray 13)) 216 _⟩, (show MapIs (w.alloc (.map (mkEs sizesL 0).toArray 13)) w.heap.size (kv sizesL) from MapIs_made w sizesL).alloc _, (hWd.up ((Below.refl _ w).alloc (Nat.le_refl _) _)).up ((Below.refl _ _).alloc (Nat.le_refl _) _)⟩
  have C0 := sizes_any w
  have C1 := (all_ok k).2.2 w.heap.size (w.heap.size + 1) w.heap.size a0 1 true x e _ ht (by omega) (by omega) hX
  have C2 := fun W => table_taken.calls a0 x e r1 r2 r3 W hT
  simp only [if_true] at C1
  have HC0 := Lib.hid C0
  have HC1 := Lib.hid C1
  have HC2 := Lib.hid C2
  clear C0 C1 C2 h hX hT ht
  go_enter Tryd.func122, Tryd.ntmps122
  go_wp2_with (first | (go_at_call 144; refine HC0.out.mono ?_; rintro e w' ⟨rfl, rfl⟩) | (go_at_call 145; refine HC1.out.mono ?_; rintro e w' ⟨rfl, hk, hb⟩; have HK := Lib.hid hk; have HBB := Lib.hid hb; clear hk hb) | (go_at_call 147; refine (HC2.out _).mono ?_; rintro e w' ⟨rfl, ⟨m1, rfl⟩⟩))
  go_ret3
  exact ⟨rfl, pw_below_drewN ((((Below.refl _ w).alloc (Nat.le_refl _) _).alloc (by simp) _).trans HBB.out) m1⟩
end Go.Proofs.YtdogcnadopepmaaDoor.M
end
