/- Texts of this seat's, one behind the other (merge.py). -/
import Derived.Test.YtdogcnadopepmaaDoorC12
import Derived.Laws.Bits64
import Derived.Test.YtdogcnadopepmaaDoorG8
/- Plain: the functions that take bytes always answer, with rounds enough; what they leave is shorter. -/
section
namespace Go.Proofs.YtdogcnadopepmaaDoor.L
open Go.RowKit Go.Proofs.YtdogcnadopepmaaDoorW.PrintWords Go.Proofs.YtdogcnadopepmaaDoorW.PrintLast Go.Proofs.YtdogcnadopepmaaDoorW.PrintMore Go.Proofs.YtdogcnadopepmaaDoor.H Go.Proofs.YtdogcnadopepmaaDoor.M
set_option linter.unusedSimpArgs false
set_option linter.unusedVariables false

theorem u64_ge (n : Int) : 0 ≤ IntKind.u64.wrap n := by
  rw [IntKind.wrap_u64]
  exact Int.emod_nonneg _ (by decide)
theorem or_ge (a b : Int) : 0 ≤ Go.bits .or .u64 a b := by
  unfold Go.bits
  exact u64_ge _
theorem wrap_small {x : Int} (h0 : 0 ≤ x) (h1 : x ≤ 100) : wrap64 (x + 1) = x + 1 := by
  unfold wrap64
  omega

theorem take_loop (s : ByteArray) (n : Nat) (hn : n ≤ s.size) (h8 : n ≤ 8) (d : Nat) : ∀ (k i : Nat) (x : Int), i + d = n → d < k → 0 ≤ x →
    ∃ v, num_Take.l0 k s n x n i = some (v, s.extract n s.size, 0) ∧ 0 ≤ v := by
  induction d with
  | zero =>
    intro k i x hi hk hx
    obtain ⟨k, rfl⟩ : ∃ m, k = m + 1 := ⟨k - 1, by omega⟩
    refine ⟨x, ?_, hx⟩
    simp only [num_Take.l0]
    rw [if_neg (by omega), if_pos (by omega), if_pos (by omega)]
    simp
  | succ d ih =>
    intro k i x hi hk hx
    obtain ⟨k, rfl⟩ : ∃ m, k = m + 1 := ⟨k - 1, by omega⟩
    obtain ⟨v, hv, h0⟩ := ih k (i + 1) (Go.bits .or .u64 (IntKind.u64.wrap (x * 256)) (IntKind.u64.wrap (bt s i))) (by omega) (by omega) (or_ge _ _)
    refine ⟨v, ?_, h0⟩
    simp only [num_Take.l0]
    rw [if_pos (by omega), if_pos (by omega), if_pos (by omega), wrap_small (by omega) (by omega)]
    exact hv

/-- A number is taken, or there are too few bytes. -/
theorem num_take (s : ByteArray) (n : Nat) (m : Int) (hm : m = n) (hn : n = 1 ∨ n = 2 ∨ n = 4 ∨ n = 8) : ∃ v r e, Ev (fun k => num_Take.f k s m) (v, r, e) ∧ ((e = 2 ∧ s.size < n) ∨ (e = 0 ∧ n ≤ s.size ∧ r = s.extract n s.size ∧ 0 ≤ v)) := by
  subst hm
  have hw : num_width.f n = some true := by
    rcases hn with rfl | rfl | rfl | rfl <;> rfl
  by_cases h : s.size < n
  · refine ⟨0, ⟨#[]⟩, 2, Ev.of (num_Take.mono s n) (k := 0) ?_, .inl ⟨rfl, h⟩⟩
    unfold num_Take.f
    rw [hw]
    simp only [Option.bind_some, if_true]
    rw [if_pos (by omega)]
  · obtain ⟨v, hv, h0⟩ := take_loop s n (by omega) (by omega) n (n + 1) 0 0 (by omega) (by omega) (by omega)
    refine ⟨v, _, 0, Ev.of (num_Take.mono s n) (k := n + 1) ?_, .inr ⟨rfl, by omega, rfl, h0⟩⟩
    unfold num_Take.f
    rw [hw]
    simp only [Option.bind_some, if_true]
    rw [if_neg (by omega)]
    exact hv

theorem num_skip (s : ByteArray) (n : Int) (h0 : 0 ≤ n) (hs : s.size ≤ 9223372036854775807) : ∃ a b e, num_Skip.f s n = some (a, b, e) ∧ ((e = 2 ∧ (s.size : Int) < n) ∨ (e = 0 ∧ n ≤ s.size ∧ a = s.extract 0 n.toNat ∧ b = s.extract n.toNat s.size)) := by
  have hw : IntKind.u64.wrap (s.size : Int) = s.size := by
    rw [IntKind.wrap_u64]
    omega
  unfold num_Skip.f
  rw [hw]
  by_cases h : n > (s.size : Int)
  · exact ⟨⟨#[]⟩, ⟨#[]⟩, 2, by rw [if_pos h], .inl ⟨rfl, h⟩⟩
  · exact ⟨_, _, 0, by rw [if_neg h, if_pos h0, if_pos (by omega)], .inr ⟨rfl, by omega, rfl, rfl⟩⟩

theorem extract_size (s : ByteArray) (n : Nat) : (s.extract n s.size).size = s.size - n := by
  rw [ByteArray.size_extract]
  omega

theorem text_take (s : ByteArray) (n : Nat) (m : Int) (hm : m = n) (hn : n = 1 ∨ n = 4) (hs : s.size ≤ 9223372036854775807) : ∃ a r e, Ev (fun k => text_kind_take.f k m s) (a, r, e) ∧ (e = 0 → r.size + n ≤ s.size) := by
  obtain ⟨v, r, e, hE, h⟩ := num_take s n m hm (by omega)
  rcases h with ⟨rfl, h⟩ | ⟨rfl, h, rfl, h0⟩
  · refine ⟨⟨#[]⟩, ⟨#[]⟩, 2, ?_, fun h => by cases h⟩
    unfold text_kind_take.f
    refine Ev.bind hE ?_
    simp only [if_neg (show ¬ (2 : Int) = 0 by decide)]
    exact Ev.now _
  · obtain ⟨a, b, e', hS, h'⟩ := num_skip (s.extract n s.size) v h0 (by rw [extract_size]; omega)
    refine ⟨a, b, e', ?_, fun he => ?_⟩
    · unfold text_kind_take.f
      refine Ev.bind hE ?_
      simp only [if_true]
      rw [hS]
      exact Ev.now _
    · rcases h' with ⟨rfl, _⟩ | ⟨rfl, _, rfl, rfl⟩
      · cases he
      · have h1 := extract_size s n
        have h2 := extract_size (s.extract n s.size) v.toNat
        omega

/-- A row of tries that comes to an answer, and what is told of it. -/
def Tries {α : Type} (g : Nat → Option α) (Q : α → Prop) : Prop := ∃ r, Ev g r ∧ Q r

def Ge (o : Option Int) : Prop := ∀ n, o = some n → 0 ≤ n
theorem Ge.ite {c : Prop} [Decidable c] {a b : Option Int} (h : Ge a) (k : Ge b) : Ge (if c then a else b) := by
  split
  · exact h
  · exact k
theorem Ge.some_ {x : Int} (h : 0 ≤ x) : Ge (some x) := fun n e => by
  injection e with e
  omega
theorem kind_ge {c n : Int} (h : kindSize c = some n) : 0 ≤ n := by
  have : Ge (kindSize c) := by
    unfold kindSize
    repeat (refine Ge.ite (Ge.some_ (by decide)) ?_)
    exact fun n e => by cases e
  exact this n h

theorem value_ev (s : ByteArray) (d : Int) (r : ByteArray × Int) (h : Ev (fun k => if s.size = 0 then some (⟨#[]⟩, 2) else
    match kindSize (bt s 0) with
    | some n => (num_Skip.f (s.extract 1 s.size) n).bind fun t => some (t.2.1, t.2.2)
    | none =>
      if bt s 0 = 83 ∨ bt s 0 = 120 then (text_TakeLong.f k (s.extract 1 s.size)).bind fun t => some (t.2.1, t.2.2)
      else if bt s 0 = 65 then table_within.f k (s.extract 1 s.size) (d + 1) false
      else if bt s 0 = 70 then table_within.f k (s.extract 1 s.size) (d + 1) true
      else some (⟨#[]⟩, 3)) r) : Ev (fun k => table_value.f k s d) r := Ev.step (fun k => by rw [table_value.f]; try rfl) h
theorem field_ev (s : ByteArray) (d : Int) (r : ByteArray × Int) (h : Ev (fun k => (text_TakeShort.f k s).bind fun t => if t.2.2 = 0 then table_value.f k t.2.1 d else some (⟨#[]⟩, t.2.2)) r) : Ev (fun k => table_field.f k s d) r := Ev.step (fun k => by rw [table_field.f]; try rfl) h
theorem within_ev (s : ByteArray) (d : Int) (fld : Bool) (r : ByteArray × Int) (h : Ev (fun k => (num_Take.f k s 4).bind fun t =>
      if t.2.2 = 0 then (num_Skip.f t.2.1 t.1).bind fun u =>
        if u.2.2 = 0 then (if d > 32 then some (⟨#[]⟩, 5) else (table_items.f k u.1 d fld).bind fun e => some (u.2.1, e))
        else some (⟨#[]⟩, u.2.2)
      else some (⟨#[]⟩, t.2.2)) r) : Ev (fun k => table_within.f k s d fld) r := Ev.step (fun k => by rw [table_within.f]; try rfl) h
theorem items_ev (s : ByteArray) (d : Int) (fld : Bool) (r : Int) (h : Ev (fun k => if s.size = 0 then some 0 else
      (if fld then table_field.f k s d else table_value.f k s d).bind fun t =>
        if t.2 = 2 then some 3 else if t.2 = 0 then table_items.f k t.1 d fld else some t.2) r) : Ev (fun k => table_items.f k s d fld) r := Ev.step (fun k => by rw [table_items.f]; try rfl) h

theorem table_all (n : Nat) : ∀ (s : ByteArray), s.size ≤ n → n ≤ 9223372036854775807 →
    (∀ d, Tries (fun k => table_value.f k s d) (fun r => r.2 = 0 → r.1.size < s.size)) ∧ (∀ d, Tries (fun k => table_field.f k s d) (fun r => r.2 = 0 → r.1.size < s.size)) ∧
    (∀ d fld, Tries (fun k => table_within.f k s d fld) (fun r => r.2 = 0 → r.1.size < s.size)) ∧ (∀ d fld, Tries (fun k => table_items.f k s d fld) (fun _ => True)) := by
  induction n using Nat.strongRecOn with
  | ind n ih =>
    intro s hs hn
    have hW : ∀ d fld, Tries (fun k => table_within.f k s d fld) (fun r => r.2 = 0 → r.1.size < s.size) := by
      intro d fld
      obtain ⟨v, r, e, hE, h⟩ := num_take s 4 4 rfl (by omega)
      rcases h with ⟨rfl, h⟩ | ⟨rfl, h, rfl, h0⟩
      · refine ⟨(⟨#[]⟩, 2), within_ev _ _ _ _ (Ev.bind hE ?_), fun h => by cases h⟩
        simp only [if_neg (show ¬ (2 : Int) = 0 by decide)]
        exact Ev.now _
      · obtain ⟨a, b, e', hS, h'⟩ := num_skip (s.extract 4 s.size) v h0 (by rw [extract_size]; omega)
        rcases h' with ⟨rfl, _⟩ | ⟨rfl, hv, rfl, rfl⟩
        · refine ⟨(⟨#[]⟩, 2), within_ev _ _ _ _ (Ev.bind hE ?_), fun h => by cases h⟩
          simp only [if_true]
          rw [hS]
          exact Ev.now _
        · have h1 := extract_size s 4
          have h2 := extract_size (s.extract 4 s.size) v.toNat
          have h3 : ((s.extract 4 s.size).extract 0 v.toNat).size < s.size := by
            rw [ByteArray.size_extract]
            omega
          by_cases hd : d > 32
          · refine ⟨(⟨#[]⟩, 5), within_ev _ _ _ _ (Ev.bind hE ?_), fun h => by cases h⟩
            simp only [if_true]
            rw [hS]
            simp only [Option.bind_some, if_true]
            simp only [if_pos hd]
            exact Ev.now _
          · obtain ⟨e2, hE2, _⟩ := (ih ((s.extract 4 s.size).extract 0 v.toNat).size (by omega) _ (Nat.le_refl _) (by omega)).2.2.2 d fld
            refine ⟨((s.extract 4 s.size).extract v.toNat (s.extract 4 s.size).size, e2), within_ev _ _ _ _ (Ev.bind hE ?_), fun _ => ?_⟩
            · simp only [if_true]
              rw [hS]
              simp only [Option.bind_some, if_true]
              simp only [if_neg hd]
              exact Ev.bind hE2 (Ev.now _)
            · show (ByteArray.extract _ _ _).size < _
              omega
    have hV : ∀ d, Tries (fun k => table_value.f k s d) (fun r => r.2 = 0 → r.1.size < s.size) := by
      intro d
      by_cases h0 : s.size = 0
      · refine ⟨(⟨#[]⟩, 2), value_ev _ _ _ ?_, fun h => by cases h⟩
        simp only [if_pos h0]
        exact Ev.now _
      · have h1 := extract_size s 1
        cases hk : kindSize (bt s 0) with
        | some m =>
          obtain ⟨a, b, e', hS, h'⟩ := num_skip (s.extract 1 s.size) m (kind_ge hk) (by omega)
          refine ⟨(b, e'), value_ev _ _ _ ?_, fun he => ?_⟩
          · simp only [if_neg h0, hk]
            rw [hS]
            exact Ev.now _
          · rcases h' with ⟨rfl, _⟩ | ⟨rfl, hv, rfl, rfl⟩
            · cases he
            · have h2 := extract_size (s.extract 1 s.size) m.toNat
              show (ByteArray.extract _ _ _).size < _
              omega
        | none =>
          by_cases c1 : bt s 0 = 83 ∨ bt s 0 = 120
          · obtain ⟨a, r, e, hE, hr⟩ := text_take (s.extract 1 s.size) 4 4 rfl (by omega) (by omega)
            refine ⟨(r, e), value_ev _ _ _ ?_, fun he => ?_⟩
            · simp only [if_neg h0, hk]
              simp only [if_pos c1]
              exact Ev.bind hE (Ev.now _)
            · have := hr he
              show r.size < _
              omega
          · have hin := (ih (s.extract 1 s.size).size (by omega) _ (Nat.le_refl _) (by omega)).2.2.1
            by_cases c2 : bt s 0 = 65
            · obtain ⟨r, hE, hr⟩ := hin (d + 1) false
              refine ⟨r, value_ev _ _ _ ?_, fun he => ?_⟩
              · simp only [if_neg h0, hk]
                simp only [if_neg c1, if_pos c2]
                exact hE
              · have := hr he
                omega
            · by_cases c3 : bt s 0 = 70
              · obtain ⟨r, hE, hr⟩ := hin (d + 1) true
                refine ⟨r, value_ev _ _ _ ?_, fun he => ?_⟩
                · simp only [if_neg h0, hk]
                  simp only [if_neg c1, if_neg c2, if_pos c3]
                  exact hE
                · have := hr he
                  omega
              · refine ⟨(⟨#[]⟩, 3), value_ev _ _ _ ?_, fun h => by cases h⟩
                simp only [if_neg h0, hk]
                simp only [if_neg c1, if_neg c2, if_neg c3]
                exact Ev.now _
    have hF : ∀ d, Tries (fun k => table_field.f k s d) (fun r => r.2 = 0 → r.1.size < s.size) := by
      intro d
      obtain ⟨a, r, e, hE, hr⟩ := text_take s 1 1 rfl (by omega) (by omega)
      by_cases he : e = 0
      · subst he
        have hlt := hr rfl
        obtain ⟨q, hQ, hq⟩ := (ih r.size (by omega) r (Nat.le_refl _) (by omega)).1 d
        refine ⟨q, field_ev _ _ _ (Ev.bind hE ?_), fun h => ?_⟩
        · simp only [if_true]
          exact hQ
        · have := hq h
          omega
      · refine ⟨(⟨#[]⟩, e), field_ev _ _ _ (Ev.bind hE ?_), fun h => absurd h he⟩
        simp only [if_neg he]
        exact Ev.now _
    refine ⟨hV, hF, hW, fun d fld => ?_⟩
    by_cases h0 : s.size = 0
    · refine ⟨0, items_ev _ _ _ _ ?_, trivial⟩
      simp only [if_pos h0]
      exact Ev.now _
    · obtain ⟨t, hT, ht⟩ : Tries (fun k => if fld = true then table_field.f k s d else table_value.f k s d) (fun r => r.2 = 0 → r.1.size < s.size) := by
        cases fld
        · exact hV d
        · exact hF d
      by_cases e2 : t.2 = 2
      · refine ⟨3, items_ev _ _ _ _ ?_, trivial⟩
        simp only [if_neg h0]
        refine Ev.bind hT ?_
        simp only [if_pos e2]
        exact Ev.now _
      · by_cases e0 : t.2 = 0
        · obtain ⟨q, hQ, _⟩ := (ih t.1.size (by have := ht e0; omega) t.1 (Nat.le_refl _) (by have := ht e0; omega)).2.2.2 d fld
          refine ⟨q, items_ev _ _ _ _ ?_, trivial⟩
          simp only [if_neg h0]
          refine Ev.bind hT ?_
          simp only [if_neg e2, if_pos e0]
          exact hQ
        · refine ⟨t.2, items_ev _ _ _ _ ?_, trivial⟩
          simp only [if_neg h0]
          refine Ev.bind hT ?_
          simp only [if_neg e2, if_neg e0]
          exact Ev.now _
end Go.Proofs.YtdogcnadopepmaaDoor.L
end

/- Plain: method.Right and serve.Take always answer. -/
section
namespace Go.Proofs.YtdogcnadopepmaaDoor.L
open Go.RowKit Go.Proofs.YtdogcnadopepmaaDoorW.PrintWords Go.Proofs.YtdogcnadopepmaaDoorW.PrintLast Go.Proofs.YtdogcnadopepmaaDoorW.PrintMore Go.Proofs.YtdogcnadopepmaaDoor.H Go.Proofs.YtdogcnadopepmaaDoor.M Go.Proofs.YtdogcnadopepmaaDoor.R
set_option linter.unusedSimpArgs false
set_option linter.unusedVariables false

theorem table_take (s : ByteArray) (hs : s.size ≤ 9223372036854775807) : ∃ r, Ev (fun k => table_Take.f k s) r := by
  obtain ⟨r, hE, hr⟩ := (table_all s.size s (Nat.le_refl _) hs).2.2.1 1 true
  have h : ∃ q, table_taken.f s r.1 r.2 = some q := by
    unfold table_taken.f
    by_cases e : r.2 = 0
    · have := hr e
      have hw : wrap64 ((s.size : Int) - (r.1.size : Int)) = (s.size : Int) - (r.1.size : Int) := by
        unfold wrap64
        omega
      rw [if_pos e, hw, if_pos (by omega), if_pos (by omega)]
      exact ⟨_, rfl⟩
    · rw [if_neg e]
      exact ⟨_, rfl⟩
  obtain ⟨q, hq⟩ := h
  refine ⟨q, ?_⟩
  unfold table_Take.f
  refine Ev.bind hE ?_
  rw [hq]
  exact Ev.now _

theorem width_j (b : Bool) (x : Int) (s : ByteArray) : ∃ r, Ev (fun k => method_width_right.j0 k b x s) r := by
  by_cases hb : b = true
  · exact ⟨4, Ev.step (f := fun _ => some 4) (fun k => by simp only [method_width_right.j0]; rw [if_pos hb]) (Ev.now _)⟩
  · by_cases hs : s.toList = ([] : List UInt8)
    · exact ⟨0, Ev.step (f := fun _ => some 0) (fun k => by simp only [method_width_right.j0]; rw [if_neg hb, if_pos hs]) (Ev.now _)⟩
    · exact ⟨1, Ev.step (f := fun _ => some 1) (fun k => by simp only [method_width_right.j0]; rw [if_neg hb, if_neg hs]) (Ev.now _)⟩

theorem width_right (z x : Int) (s : ByteArray) (h0 : 0 ≤ z) (h8 : z ≤ 8) : ∃ r, Ev (fun k => method_width_right.f k z x s) r := by
  have hw : 0 ≤ wrap64 (8 * z) := by
    unfold wrap64
    omega
  unfold method_width_right.f
  by_cases c1 : z = 0
  · simp only [if_pos c1]
    by_cases c2 : x > 1
    · simp only [if_pos c2]
      exact width_j _ _ _
    · simp only [if_neg c2, if_neg (show ¬ z > 0 by omega)]
      exact width_j _ _ _
  · simp only [if_neg c1, if_pos (show z > 0 by omega)]
    by_cases c2 : z < 8
    · simp only [if_pos c2, if_pos hw]
      exact width_j _ _ _
    · simp only [if_neg c2]
      exact width_j _ _ _

theorem wide_j (z x : Int) (b : Bool) (s : ByteArray) (hs : s.size ≤ 9223372036854775807) : ∃ r, Ev (fun k => method_wide_right.j0 k z b x s) r := by
  have key : ∀ {g : Nat → Option Int}, (∀ k, method_wide_right.j0 (k + 1) z b x s = g k) → (∃ r, Ev g r) → ∃ r, Ev (fun k => method_wide_right.j0 k z b x s) r := fun h ⟨r, hr⟩ => ⟨r, Ev.step h hr⟩
  refine key (fun k => by rw [method_wide_right.j0]) ?_
  by_cases hb : b = true
  · simp only [if_pos hb]
    exact ⟨_, Ev.now _⟩
  · simp only [if_neg hb]
    by_cases c1 : x = 0
    · simp only [if_pos c1]
      by_cases c2 : z < 0
      · simp only [if_pos c2]
        obtain ⟨r, hr⟩ := table_take s hs
        have h : ∃ q, (if r.2.2 = 0 then (if r.2.1.toList = ([] : List UInt8) then (if r.1.toList = ([] : List UInt8) then (some (3 : Int)) else (some 0)) else (some 3)) else (some 3)) = some q := by
          repeat' split
          all_goals exact ⟨_, rfl⟩
        obtain ⟨q, hq⟩ := h
        refine ⟨q, Ev.bind hr ?_⟩
        simp only [hq]
        exact Ev.now _
      · simp only [if_neg c2]
        exact ⟨_, Ev.now _⟩
    · simp only [if_neg c1]
      exact ⟨_, Ev.now _⟩

theorem wide_right (z x : Int) (s : ByteArray) (hs : s.size ≤ 9223372036854775807) : ∃ r, Ev (fun k => method_wide_right.f k z x s) r := by
  unfold method_wide_right.f
  by_cases c : z ≥ 0
  · simp only [if_pos c]
    exact wide_j _ _ _ _ hs
  · simp only [if_neg c]
    exact wide_j _ _ _ _ hs

/-- The letters of signatures. -/
def isLetter (c : Int) : Bool := c == 111 || c == 115 || c == 108 || c == 113 || c == 98 || c == 83 || c == 76 || c == 84
theorem rows_letters : sigRows.all (fun r => r.s.all (fun c => isLetter c.toNat)) = true := by decide +kernel

theorem rightsD_at (c : Int) (h : isLetter c = true) : rightsD c = if c = 111 then some (.int .i64 1, true) else if c = 115 then some (.int .i64 2, true) else if c = 108 then some (.int .i64 4, true) else if c = 113 then some (.int .i64 8, true) else if c = 98 then some (.int .i64 0, true) else if c = 83 then some (.int .i64 255, false) else if c = 76 then some (.int .i64 131072, false) else some (.int .i64 (-1), false) := by
  simp only [isLetter, Bool.or_eq_true, beq_iff_eq] at h
  rcases h with (((((((rfl | rfl) | rfl) | rfl) | rfl) | rfl) | rfl) | rfl) <;> rfl

theorem val_right (c : Int) (v : S56) (h : isLetter c = true) (hs : v.f1.size ≤ 9223372036854775807) : ∃ r, Ev (fun k => valRight.f k c v) r := by
  unfold valRight.f
  rw [rightsD_at c h]
  simp only [isLetter, Bool.or_eq_true, beq_iff_eq] at h
  rcases h with (((((((rfl | rfl) | rfl) | rfl) | rfl) | rfl) | rfl) | rfl)
  · exact width_right 1 _ _ (by decide) (by decide)
  · exact width_right 2 _ _ (by decide) (by decide)
  · exact width_right 4 _ _ (by decide) (by decide)
  · exact width_right 8 _ _ (by decide) (by decide)
  · exact width_right 0 _ _ (by decide) (by decide)
  · exact wide_right 255 _ _ hs
  · exact wide_right 131072 _ _ hs
  · exact wide_right (-1) _ _ hs

theorem right_l (s : ByteArray) (hl : ∀ i, i < s.size → isLetter (bt s (i : Nat)) = true) : ∀ (l : List S56) (i : Nat), l.length + i = s.size → (∀ v ∈ l, Ok56 v) → ∃ r, Ev (fun k => method_Right.l k s l i) r
  | [], _, _, _ => ⟨0, Ev.now _⟩
  | v :: vs, i, hi, hv => by
    simp only [List.length_cons] at hi
    obtain ⟨e, hE⟩ := val_right (bt s i) v (hl i (by omega)) (hv v List.mem_cons_self).2
    obtain ⟨r, hR⟩ := right_l s hl vs (i + 1) (by omega) (fun u hu => hv u (List.mem_cons_of_mem _ hu))
    simp only [method_Right.l, if_pos (show i < s.size by omega)]
    by_cases c : e = 0
    · refine ⟨r, Ev.bind hE ?_⟩
      simp only [if_pos c]
      exact hR
    · refine ⟨e, Ev.bind hE ?_⟩
      simp only [if_neg c]
      exact Ev.now _

theorem row_letters (r : SRow) (hr : r.s.all (fun c => isLetter c.toNat) = true) (j : Nat) (hj : j < (⟨r.s.toArray⟩ : ByteArray).size) : isLetter (bt ⟨r.s.toArray⟩ (j : Nat)) = true := by
  have hj' : j < r.s.length := by simpa [ByteArray.size] using hj
  have hb : bt ⟨r.s.toArray⟩ (j : Nat) = (r.s[j]).toNat := by
    unfold bt
    simp only [Int.toNat_natCast]
    rw [dif_pos hj]
    rfl
  rw [hb]
  exact List.all_eq_true.1 hr _ (List.getElem_mem _)
theorem find_letters (c i : Int) : ∀ j, j < (⟨((sigFind c i).getD zeroRow).s.toArray⟩ : ByteArray).size → isLetter (bt ⟨((sigFind c i).getD zeroRow).s.toArray⟩ (j : Nat)) = true := by
  refine row_letters _ ?_
  cases hf : sigFind c i with
  | none => rfl
  | some r => exact List.all_eq_true.1 rows_letters r (List.mem_of_find?_eq_some hf)

theorem method_right (c i : Int) (l : List S56) (hv : ∀ v ∈ l, Ok56 v) : ∃ r, Ev (fun k => method_Right.f k c i l) r := by
  unfold method_Right.f sig_Of.f
  simp only [Option.bind_some]
  by_cases c1 : (sigFind c i).isSome = true
  · simp only [if_pos c1]
    by_cases c2 : ((⟨((sigFind c i).getD zeroRow).s.toArray⟩ : ByteArray).size : Int) = (l.length : Int)
    · simp only [if_pos c2]
      exact right_l _ (find_letters c i) l 0 (by omega) hv
    · simp only [if_neg c2]
      exact ⟨_, Ev.now _⟩
  · simp only [if_neg c1]
    exact ⟨_, Ev.now _⟩

/-- What serve.Take answers. -/
def takeR (e : Int) (h : Hd) (m : S24) : Res :=
  if e = 0 then (if h.st < 0 ∨ 7 ≤ h.st then ⟨8, h, []⟩ else if (doStep h m).e = 0 then ⟨0, (doStep h m).h, (doStep h m).out⟩ else ⟨(doStep h m).e, h, []⟩) else ⟨7, h, []⟩
def tup (r : Res) : Int × Int × Int × Int × ByteArray × ByteArray × ByteArray × (List (S24)) × Int := (r.h.st, r.h.ch, r.h.fr, r.h.be, r.h.us, r.h.wo, r.h.ho, r.out, r.e)

theorem arg_ok (l : List S56) (hv : ∀ v ∈ l, Ok56 v) (i : Nat) : Ok56 (argAt l i) := by
  unfold argAt
  rw [List.getD_eq_getElem?_getD]
  cases h : l[i]? with
  | none => exact ⟨by decide, by decide⟩
  | some v =>
    obtain ⟨hl, rfl⟩ := List.getElem?_eq_some_iff.1 h
    exact hv _ (List.getElem_mem _)

theorem serve_take (h : Hd) (m : S24) (hv : ∀ v ∈ m.f2, Ok56 v) : ∃ e, Ev (fun k => method_Right.f k m.f0 m.f1 m.f2) e ∧ Ev (fun k => serve_Take.f k h.st h.ch h.fr h.be h.us h.wo h.ho m.f0 m.f1 m.f2) (tup (takeR e h m)) := by
  obtain ⟨e, hE⟩ := method_right m.f0 m.f1 m.f2 hv
  refine ⟨e, hE, ?_⟩
  unfold serve_Take.f
  refine Ev.bind hE ?_
  unfold takeR
  by_cases c1 : e = 0
  · simp only [if_pos c1]
    by_cases c2 : h.st < 0 ∨ 7 ≤ h.st
    · simp only [if_pos c2]
      exact Ev.now _
    · simp only [if_neg c2, if_pos (arg_ok m.f2 hv 2).2]
      by_cases c3 : (doStep h m).e = 0
      · simp only [if_pos c3, if_pos (show (doStep ⟨h.st, h.ch, h.fr, h.be, h.us, h.wo, h.ho⟩ ⟨m.f0, m.f1, m.f2⟩).e = 0 from c3)]
        exact Ev.now _
      · simp only [if_neg c3, if_neg (show ¬ (doStep ⟨h.st, h.ch, h.fr, h.be, h.us, h.wo, h.ho⟩ ⟨m.f0, m.f1, m.f2⟩).e = 0 from c3)]
        exact Ev.now _
  · simp only [if_neg c1]
    exact Ev.now _
end Go.Proofs.YtdogcnadopepmaaDoor.L
end
