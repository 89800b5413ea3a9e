/- Texts of this seat's, one behind the other (merge.py). -/
import Derived.Shelf.Small.Wraps
import Derived.Shelf.Strings.Search1
import Derived.Shelf.Strings.Search2
import Derived.Shelf.Strings.Search3
import Derived.Shelf.Strings.Prefix
import Derived.Test.YtdogcnadopepmaaDoorProg
import Derived.Test.YtdogcnadopepmaaDoorG4
import Derived.Lib.IndexLaws
import Derived.Laws.Strings3
/- The contracts of strings' functions that are used here, laid at this seat by the kit's lay-shelf and lay-plain. -/
section
namespace Go.Proofs
open Go.Shelf
def Tryd.lays210_ren : Go.Shelf.Ren := ⟨fun | 210 => 150 | 206 => 163 | n => n, fun | 9 => 9 | 4 => 4 | 3 => 3 | n => n, fun | n => n⟩
theorem Tryd.lays210 : Go.Proofs.Lays.n210 Tryd.prog Tryd.lays210_ren := {
  mixed := by kernel_rfl
  f206 := Tryd.func163.trans (congrArg some (by kernel_rfl))
  f210 := Tryd.func150.trans (congrArg some (by kernel_rfl))
  t3 := Tryd.underlying3
  a3 := Tryd.isAgg3
  z3 := Tryd.sizeOf3
  v3 := Tryd.zeroValue3
  t4 := Tryd.underlying4
  a4 := Tryd.isAgg4
  z4 := Tryd.sizeOf4
  v4 := Tryd.zeroValue4
  t9 := Tryd.underlying9
  a9 := Tryd.isAgg9
  z9 := Tryd.sizeOf9
  v9 := Tryd.zeroValue9 }
open Go.RowKit in
theorem Tryd.stringslite_CutPrefix (s p : ByteArray) (w : World) :
    Calls Tryd.prog 150 #[.string s, .string p] w fun e w' => e = .returned (.tuple #[.string ⟨(Lib.trimPrefix s.data.toList p.data.toList).toArray⟩, .bool (Lib.hasPrefix s.data.toList p.data.toList)]) ∧ w' = w := Any.stringslite_CutPrefix Tryd.lays210 s p w
def Tryd.lays103_ren : Go.Shelf.Ren := ⟨fun | 103 => 124 | 210 => 150 | 206 => 163 | n => n, fun | 9 => 9 | 4 => 4 | 24 => 82 | 3 => 3 | n => n, fun | n => n⟩
theorem Tryd.lays103 : Go.Proofs.Lays.n103 Tryd.prog Tryd.lays103_ren := {
  mixed := by kernel_rfl
  f103 := Tryd.func124.trans (congrArg some (by kernel_rfl))
  f206 := Tryd.func163.trans (congrArg some (by kernel_rfl))
  f210 := Tryd.func150.trans (congrArg some (by kernel_rfl))
  t3 := Tryd.underlying3
  a3 := Tryd.isAgg3
  z3 := Tryd.sizeOf3
  v3 := Tryd.zeroValue3
  t4 := Tryd.underlying4
  a4 := Tryd.isAgg4
  z4 := Tryd.sizeOf4
  v4 := Tryd.zeroValue4
  t9 := Tryd.underlying9
  a9 := Tryd.isAgg9
  z9 := Tryd.sizeOf9
  v9 := Tryd.zeroValue9
  t24 := Tryd.underlying82
  a24 := Tryd.isAgg82
  z24 := Tryd.sizeOf82
  v24 := Tryd.zeroValue82 }
open Go.RowKit in
theorem Tryd.strings_CutPrefix (s p : ByteArray) (w : World) :
    Calls Tryd.prog 124 #[.string s, .string p] w fun e w' => e = .returned (.tuple #[.string ⟨(Lib.trimPrefix s.data.toList p.data.toList).toArray⟩, .bool (Lib.hasPrefix s.data.toList p.data.toList)]) ∧ w' = w := Any.strings_CutPrefix Tryd.lays103 s p w
def Tryd.lays217_ren : Go.Shelf.Ren := ⟨fun | 217 => 154 | 266 => 165 | n => n, fun | 9 => 9 | 5 => 5 | 3 => 3 | n => n, fun | n => n⟩
theorem Tryd.lays217 : Go.Proofs.Lays.n217 Tryd.prog Tryd.lays217_ren := {
  mixed := by kernel_rfl
  f217 := Tryd.func154.trans (congrArg some (by kernel_rfl))
  f266 := Tryd.func165.trans (congrArg some (by kernel_rfl))
  t3 := Tryd.underlying3
  a3 := Tryd.isAgg3
  z3 := Tryd.sizeOf3
  v3 := Tryd.zeroValue3
  t5 := Tryd.underlying5
  a5 := Tryd.isAgg5
  z5 := Tryd.sizeOf5
  v5 := Tryd.zeroValue5
  t9 := Tryd.underlying9
  a9 := Tryd.isAgg9
  z9 := Tryd.sizeOf9
  v9 := Tryd.zeroValue9 }
open Go.RowKit Go.Lib in
theorem Tryd.stringslite_IndexByte (s : ByteArray) (c : Int) (w : World) :
    Calls Tryd.prog 154 #[.string s, .int .u8 c] w fun e w' => e = .returned (.int .i64 (Lib.indexByte s.data.toList c.toNat.toUInt8)) ∧ w' = w := Any.stringslite_IndexByte Tryd.lays217 s c w
def Tryd.lays219_ren : Go.Shelf.Ren := ⟨fun | 219 => 140 | 217 => 154 | 225 => 155 | 224 => 156 | 267 => 157 | 266 => 165 | 314 => 166 | n => n, fun | 9 => 9 | 3 => 3 | 4 => 4 | 5 => 5 | 46 => 188 | 146 => 231 | 51 => 230 | n => n, fun | 1 => 2 | n => n⟩
theorem Tryd.lays219 : Go.Proofs.Lays.n219 Tryd.prog Tryd.lays219_ren := {
  mixed := by kernel_rfl
  f217 := Tryd.func154.trans (congrArg some (by kernel_rfl))
  f219 := Tryd.func140.trans (congrArg some (by kernel_rfl))
  f224 := Tryd.func156.trans (congrArg some (by kernel_rfl))
  f225 := Tryd.func155.trans (congrArg some (by kernel_rfl))
  f266 := Tryd.func165.trans (congrArg some (by kernel_rfl))
  f267 := Tryd.func157.trans (congrArg some (by kernel_rfl))
  f314 := Tryd.func166.trans (congrArg some (by kernel_rfl))
  t3 := Tryd.underlying3
  a3 := Tryd.isAgg3
  z3 := Tryd.sizeOf3
  v3 := Tryd.zeroValue3
  t4 := Tryd.underlying4
  a4 := Tryd.isAgg4
  z4 := Tryd.sizeOf4
  v4 := Tryd.zeroValue4
  t5 := Tryd.underlying5
  a5 := Tryd.isAgg5
  z5 := Tryd.sizeOf5
  v5 := Tryd.zeroValue5
  t9 := Tryd.underlying9
  a9 := Tryd.isAgg9
  z9 := Tryd.sizeOf9
  v9 := Tryd.zeroValue9
  t46 := Tryd.underlying188
  a46 := Tryd.isAgg188
  z46 := Tryd.sizeOf188
  v46 := Tryd.zeroValue188
  t51 := Tryd.underlying230
  a51 := Tryd.isAgg230
  z51 := Tryd.sizeOf230
  v51 := Tryd.zeroValue230
  t146 := Tryd.underlying231
  a146 := Tryd.isAgg231
  z146 := Tryd.sizeOf231
  v146 := Tryd.zeroValue231
  g1 := by kernel_rfl }
open Go.RowKit Go.Lib in
theorem Tryd.stringslite_Index_one (s : ByteArray) (c : UInt8) (w : World) :
    Calls Tryd.prog 140 #[.string s, .string ⟨#[c]⟩] w fun e w' => e = .returned (.int .i64 (Lib.indexByte s.data.toList c)) ∧ w' = w := Any.stringslite_Index_one Tryd.lays219 s c w
open Go.RowKit Go.Lib in
theorem Tryd.stringslite_Index (s sub : ByteArray) (m : Int) (w : World) (hs : s.size < 4294967281) (hm : w.cell? ⟨2, 0, none⟩ = some (.int .i64 m)) :
    Calls Tryd.prog 140 #[.string s, .string sub] w fun e w' => e = .returned (.int .i64 (Lib.index s.data.toList sub.data.toList)) ∧ w' = w := Any.stringslite_Index Tryd.lays219 s sub m w hs hm
def Tryd.lays143_ren : Go.Shelf.Ren := ⟨fun | 143 => 115 | 219 => 140 | 217 => 154 | 225 => 155 | 224 => 156 | 267 => 157 | 266 => 165 | 314 => 166 | n => n, fun | 9 => 9 | 3 => 3 | 4 => 4 | 5 => 5 | 46 => 188 | 146 => 231 | 51 => 230 | n => n, fun | 1 => 2 | n => n⟩
theorem Tryd.lays143 : Go.Proofs.Lays.n143 Tryd.prog Tryd.lays143_ren := {
  mixed := by kernel_rfl
  f143 := Tryd.func115.trans (congrArg some (by kernel_rfl))
  f217 := Tryd.func154.trans (congrArg some (by kernel_rfl))
  f219 := Tryd.func140.trans (congrArg some (by kernel_rfl))
  f224 := Tryd.func156.trans (congrArg some (by kernel_rfl))
  f225 := Tryd.func155.trans (congrArg some (by kernel_rfl))
  f266 := Tryd.func165.trans (congrArg some (by kernel_rfl))
  f267 := Tryd.func157.trans (congrArg some (by kernel_rfl))
  f314 := Tryd.func166.trans (congrArg some (by kernel_rfl))
  t3 := Tryd.underlying3
  a3 := Tryd.isAgg3
  z3 := Tryd.sizeOf3
  v3 := Tryd.zeroValue3
  t4 := Tryd.underlying4
  a4 := Tryd.isAgg4
  z4 := Tryd.sizeOf4
  v4 := Tryd.zeroValue4
  t5 := Tryd.underlying5
  a5 := Tryd.isAgg5
  z5 := Tryd.sizeOf5
  v5 := Tryd.zeroValue5
  t9 := Tryd.underlying9
  a9 := Tryd.isAgg9
  z9 := Tryd.sizeOf9
  v9 := Tryd.zeroValue9
  t46 := Tryd.underlying188
  a46 := Tryd.isAgg188
  z46 := Tryd.sizeOf188
  v46 := Tryd.zeroValue188
  t51 := Tryd.underlying230
  a51 := Tryd.isAgg230
  z51 := Tryd.sizeOf230
  v51 := Tryd.zeroValue230
  t146 := Tryd.underlying231
  a146 := Tryd.isAgg231
  z146 := Tryd.sizeOf231
  v146 := Tryd.zeroValue231
  g1 := by kernel_rfl }
open Go.RowKit Go.Lib in
theorem Tryd.strings_Index_one (s : ByteArray) (c : UInt8) (w : World) :
    Calls Tryd.prog 115 #[.string s, .string ⟨#[c]⟩] w fun e w' => e = .returned (.int .i64 (Lib.indexByte s.data.toList c)) ∧ w' = w := Any.strings_Index_one Tryd.lays143 s c w
open Go.RowKit Go.Lib in
theorem Tryd.strings_Index (s sub : ByteArray) (m : Int) (w : World) (hs : s.size < 4294967281) (hm : w.cell? ⟨2, 0, none⟩ = some (.int .i64 m)) :
    Calls Tryd.prog 115 #[.string s, .string sub] w fun e w' => e = .returned (.int .i64 (Lib.index s.data.toList sub.data.toList)) ∧ w' = w := Any.strings_Index Tryd.lays143 s sub m w hs hm
def Tryd.lays144_ren : Go.Shelf.Ren := ⟨fun | 144 => 78 | 143 => 115 | 219 => 140 | 217 => 154 | 225 => 155 | 224 => 156 | 267 => 157 | 266 => 165 | 314 => 166 | n => n, fun | 9 => 9 | 4 => 4 | 3 => 3 | 5 => 5 | 46 => 188 | 146 => 231 | 51 => 230 | n => n, fun | 1 => 2 | n => n⟩
theorem Tryd.lays144 : Go.Proofs.Lays.n144 Tryd.prog Tryd.lays144_ren := {
  mixed := by kernel_rfl
  f143 := Tryd.func115.trans (congrArg some (by kernel_rfl))
  f144 := Tryd.func78.trans (congrArg some (by kernel_rfl))
  f217 := Tryd.func154.trans (congrArg some (by kernel_rfl))
  f219 := Tryd.func140.trans (congrArg some (by kernel_rfl))
  f224 := Tryd.func156.trans (congrArg some (by kernel_rfl))
  f225 := Tryd.func155.trans (congrArg some (by kernel_rfl))
  f266 := Tryd.func165.trans (congrArg some (by kernel_rfl))
  f267 := Tryd.func157.trans (congrArg some (by kernel_rfl))
  f314 := Tryd.func166.trans (congrArg some (by kernel_rfl))
  t3 := Tryd.underlying3
  a3 := Tryd.isAgg3
  z3 := Tryd.sizeOf3
  v3 := Tryd.zeroValue3
  t4 := Tryd.underlying4
  a4 := Tryd.isAgg4
  z4 := Tryd.sizeOf4
  v4 := Tryd.zeroValue4
  t5 := Tryd.underlying5
  a5 := Tryd.isAgg5
  z5 := Tryd.sizeOf5
  v5 := Tryd.zeroValue5
  t9 := Tryd.underlying9
  a9 := Tryd.isAgg9
  z9 := Tryd.sizeOf9
  v9 := Tryd.zeroValue9
  t46 := Tryd.underlying188
  a46 := Tryd.isAgg188
  z46 := Tryd.sizeOf188
  v46 := Tryd.zeroValue188
  t51 := Tryd.underlying230
  a51 := Tryd.isAgg230
  z51 := Tryd.sizeOf230
  v51 := Tryd.zeroValue230
  t146 := Tryd.underlying231
  a146 := Tryd.isAgg231
  z146 := Tryd.sizeOf231
  v146 := Tryd.zeroValue231
  g1 := by kernel_rfl }
open Go.RowKit Go.Lib in
theorem Tryd.strings_Contains_one (s : ByteArray) (c : UInt8) (w : World) :
    Calls Tryd.prog 78 #[.string s, .string ⟨#[c]⟩] w fun e w' => e = .returned (.bool (decide (0 ≤ Lib.indexByte s.data.toList c))) ∧ w' = w := Any.strings_Contains_one Tryd.lays144 s c w
open Go.RowKit Go.Lib in
theorem Tryd.strings_Contains (s sub : ByteArray) (m : Int) (w : World) (hs : s.size < 4294967281) (hm : w.cell? ⟨2, 0, none⟩ = some (.int .i64 m)) :
    Calls Tryd.prog 78 #[.string s, .string sub] w fun e w' => e = .returned (.bool (Lib.contains s.data.toList sub.data.toList)) ∧ w' = w := Any.strings_Contains Tryd.lays144 s sub m w hs hm
def Tryd.lays206_ren : Go.Shelf.Ren := ⟨fun | 206 => 163 | n => n, fun | 9 => 9 | 4 => 4 | 3 => 3 | n => n, fun | n => n⟩
theorem Tryd.lays206 : Go.Proofs.Lays.n206 Tryd.prog Tryd.lays206_ren := {
  mixed := by kernel_rfl
  f206 := Tryd.func163.trans (congrArg some (by kernel_rfl))
  t3 := Tryd.underlying3
  a3 := Tryd.isAgg3
  z3 := Tryd.sizeOf3
  v3 := Tryd.zeroValue3
  t4 := Tryd.underlying4
  a4 := Tryd.isAgg4
  z4 := Tryd.sizeOf4
  v4 := Tryd.zeroValue4
  t9 := Tryd.underlying9
  a9 := Tryd.isAgg9
  z9 := Tryd.sizeOf9
  v9 := Tryd.zeroValue9 }
open Go.RowKit Go.Lib in
theorem Tryd.stringslite_HasPrefix (s p : ByteArray) (w : World) :
    Calls Tryd.prog 163 #[.string s, .string p] w fun e w' => e = .returned (.bool (Lib.hasPrefix s.data.toList p.data.toList)) ∧ w' = w := Any.stringslite_HasPrefix Tryd.lays206 s p w
end Go.Proofs
end

/- serve: a connection that takes a method: what it computes, as plain functions. -/
section
namespace Go.Proofs.YtdogcnadopepmaaDoor.M
open Go.RowKit Go.Proofs.YtdogcnadopepmaaDoorW.PrintWords Go.Proofs.YtdogcnadopepmaaDoorW.PrintLast Go.Proofs.YtdogcnadopepmaaDoorW.PrintMore Go.Proofs.YtdogcnadopepmaaDoor.H
set_option linter.unusedSimpArgs false
set_option linter.unusedVariables false

/-! Rows of values and of methods, laid as blocks. -/
def flat56 : List S56 → List Value
  | [] => []
  | v :: l => .int .u64 v.f0 :: .string v.f1 :: flat56 l
theorem flat56_get : ∀ (l : List S56) (j : Nat) (p : S56), l[j]? = some p → (flat56 l)[j * 2]? = some (.int .u64 p.f0) ∧ (flat56 l)[j * 2 + 1]? = some (.string p.f1)
  | [], j, p, h => by simp at h
  | v :: l, 0, p, h => by simp at h; subst h; simp [flat56]
  | v :: l, j + 1, p, h => by
    have := flat56_get l j p (by simpa using h)
    rw [show (j + 1) * 2 = j * 2 + 1 + 1 by omega]
    simpa [flat56] using this
theorem add0 (b k : Nat) : (⟨b, 0, none⟩ : Addr).add k = ⟨b, k, none⟩ := by
  cases k <;> simp [Addr.add]
theorem C56_of {W : World} {b : Nat} {t : TypeId} {l : List S56} (h : BlockIs W b t (flat56 l).toArray) (hl : l.length ≤ 9223372036854775807) : Kd.C k56 W (some ⟨b, 0, none⟩) l.length l := by
  refine ⟨rfl, hl, fun _ => ⟨_, rfl, fun j p hp => ⟨_, rfl, k56_mk W p, fun i u hu => ?_⟩⟩⟩
  obtain ⟨h0, h1⟩ := flat56_get l j p hp
  have hsz : k56.sz = 2 := rfl
  match i, hu with
  | 0, hu =>
    simp only [List.getElem?_cons_zero, Option.some.injEq] at hu
    subst hu
    have := h.cell (j * 2)
    simp only [List.getElem?_toArray, h0] at this
    rw [add0, hsz]
    exact this
  | 1, hu =>
    simp only [List.getElem?_cons_zero, List.getElem?_cons_succ, Option.some.injEq] at hu
    subst hu
    have := h.cell (j * 2 + 1)
    simp only [List.getElem?_toArray, h1] at this
    rw [add0, hsz]
    exact this

theorem F56_of {W : World} {b : Nat} {t : TypeId} {l : List S56} {ok : Nat → Prop} (h : BlockIs W b t (flat56 l).toArray) (hl : l.length ≤ 9223372036854775807) (hok : ok b) : Kd.F k56 W ok (some ⟨b, 0, none⟩) l.length l :=
  fun W' hW => C56_of (W := W') (b := b) (t := t) ((hW b hok h.lt).trans h) hl

/-- A row of methods of the call's own, whose values are only read; all blocks behind block g. -/
def Meths (g : Nat) (w : World) (v : Value) (l : List S24) : Prop := Kd.N k24 24 w g (fun k => g < k) v l
theorem Meths.nil {g : Nat} (w : World) : Meths g w (.slice none 0 0) [] := Kd.N_nil _ _ _ _ _
theorem Meths.below {g : Nat} {w w' : World} {v : Value} {l : List S24} (h : Meths g w v l) (hb : Below w.heap.size w w') : Meths g w' v l := Kd.N_below h hb
theorem Meths.one {g : Nat} {w : World} {b : Nat} {m : S24} {A : Option Addr} {c : Nat} (hg : g < b) (h : BlockIs w b 24 #[.int .i64 m.f0, .int .i64 m.f1, .slice A m.f2.length c]) (hc : m.f2.length ≤ c) (ha : Kd.F k56 w (fun k => g < k ∧ k ≠ b) A m.f2.length m.f2) : Meths g w (.slice (some ⟨b, 0, none⟩) 1 1) [m] := by
  have hown : ∀ k, (Value.slice (some ⟨b, 0, none⟩) 1 1).ownBlock = some k → k = b := fun k hk => by
    simp only [Value.ownBlock, Option.some.injEq] at hk
    exact hk.symm
  have hone : ∀ u ∈ [Value.int .i64 m.f0, .int .i64 m.f1, .slice A m.f2.length c], u.oneCell' = true := fun u hu => by
    simp only [List.mem_cons, List.mem_nil_iff, or_false] at hu
    rcases hu with rfl | rfl | rfl <;> rfl
  refine ⟨fun k hk => by rw [hown k hk]; exact hg, [[.int .i64 m.f0, .int .i64 m.f1, .slice A m.f2.length c]], rfl, ⟨fun k hk => hk.symm, [.int .i64 m.f0, .int .i64 m.f1, .slice A m.f2.length c], ⟨rfl, .inr ⟨b, 1, _, rfl, by omega, h, Nat.le_refl _, by decide, rfl, rfl⟩⟩, ⟨rfl, fun j p hp => ?_⟩⟩, fun j x cs hx hcs => ?_⟩
  · match j, hp with
    | 0, hp =>
      simp only [List.getElem?_cons_zero, Option.some.injEq] at hp
      subst hp
      exact ⟨rfl, rfl, hone⟩
    | j + 1, hp => simp at hp
  · match j, hx, hcs with
    | 0, hx, hcs =>
      simp only [List.getElem?_cons_zero, Option.some.injEq] at hx hcs
      subst hx
      subst hcs
      refine k24_mkF _ _ _ hc (Kd.F_mono ha (fun k hk => ⟨hk.1, fun e => hk.2 ?_⟩))
      exact hown k e.symm
    | j + 1, hx, _ => simp at hx

structure Hd where
  st : Int
  ch : Int
  fr : Int
  be : Int
  us : ByteArray
  wo : ByteArray
  ho : ByteArray

def argAt (l : List S56) (i : Nat) : S56 := l.getD i z56
def cutA (s : ByteArray) (c : UInt8) : ByteArray := if 0 ≤ Lib.indexByte s.data.toList c then s.extract 0 (Lib.indexByte s.data.toList c).toNat else s
def cutB (s : ByteArray) (c : UInt8) : ByteArray := if 0 ≤ Lib.indexByte s.data.toList c then s.extract (Lib.indexByte s.data.toList c + 1).toNat s.size else ⟨#[]⟩
def hasB (s : ByteArray) (c : UInt8) : Bool := decide (0 ≤ Lib.indexByte s.data.toList c)
def restOf (s : ByteArray) : ByteArray := ⟨(Lib.trimPrefix s.data.toList [0]).toArray⟩
def pairs (s : ByteArray) : ByteArray × ByteArray × Bool :=
  if Lib.hasPrefix s.data.toList [0] = true ∧ hasB (restOf s) 0 = true ∧ hasB (cutB (restOf s) 0) 0 = false then (cutA (restOf s) 0, cutB (restOf s) 0, true) else (⟨#[]⟩, ⟨#[]⟩, false)

structure Res where
  e : Int
  h : Hd
  out : List S24
def isM (m : S24) (i : Int) : Bool := m.f0 == 10 && m.f1 == i
def doEnds (h : Hd) (m : S24) : Res := if isM m 50 then ⟨0, { h with st := 6 }, [⟨10, 51, []⟩]⟩ else ⟨8, h, []⟩
def plainWord : List UInt8 := [80, 76, 65, 73, 78]
def num56 (x : Int) : S56 := ⟨IntKind.u64.wrap x, ⟨#[]⟩⟩
def doStart (h : Hd) (m : S24) : Res :=
  if isM m 11 then
    if (argAt m.f2 1).f1.toList = plainWord then
      (if (pairs (argAt m.f2 2).f1).2.2 then ⟨0, { h with us := (pairs (argAt m.f2 2).f1).1, wo := (pairs (argAt m.f2 2).f1).2.1, st := 2 }, [⟨10, 30, [num56 h.ch, num56 h.fr, num56 h.be]⟩]⟩ else ⟨7, h, []⟩)
    else ⟨14, h, []⟩
  else doEnds h m
def intAt (l : List S56) (i : Nat) : Int := wrap64 (argAt l i).f0
def doTune (h : Hd) (m : S24) : Res :=
  if isM m 31 then
    if intAt m.f2 0 > h.ch ∨ intAt m.f2 1 > h.fr ∨ (intAt m.f2 1 ≠ 0 ∧ intAt m.f2 1 < 4096) then ⟨14, h, []⟩
    else ⟨0, { h with st := 3, ch := if intAt m.f2 0 = 0 then h.ch else intAt m.f2 0, fr := if intAt m.f2 1 = 0 then h.fr else intAt m.f2 1, be := min (intAt m.f2 2) h.be }, []⟩
  else doEnds h m
def doOpen (h : Hd) (m : S24) : Res :=
  if isM m 40 then ⟨0, { h with ho := (argAt m.f2 0).f1, st := 4 }, [⟨10, 41, [⟨0, ⟨#[]⟩⟩]⟩]⟩ else doEnds h m
def doClosing (h : Hd) (m : S24) : Res :=
  if isM m 51 then ⟨0, { h with st := 6 }, []⟩ else if isM m 50 then ⟨0, h, [⟨10, 51, []⟩]⟩ else ⟨0, h, []⟩
def doStep (h : Hd) (m : S24) : Res :=
  if h.st = 0 then ⟨8, h, []⟩ else if h.st = 1 then doStart h m else if h.st = 2 then doTune h m else if h.st = 3 then doOpen h m else if h.st = 4 then doEnds h m else if h.st = 5 then doClosing h m else ⟨0, h, []⟩

def workCells (h : Hd) (c i : Int) (A : Option Addr) (n cap : Nat) (out : Value) : Array Value :=
  #[.int .i64 h.st, .int .i64 h.ch, .int .i64 h.fr, .int .i64 h.be, .string h.us, .string h.wo, .string h.ho, .int .i64 c, .int .i64 i, .slice A n cap, out]

/-- What a step of a connection's leaves; n: its own block. -/
def StepPost (g : Nat) (m : S24) (A : Option Addr) (cap : Nat) (r : Res) (W : World) (e : Ending) (W' : World) : Prop :=
  e = .returned (.int .i64 r.e) ∧ Below g W W' ∧ (r.e = 0 → ∃ v, BlockIs W' g 113 (workCells r.h m.f0 m.f1 A m.f2.length cap v) ∧ Meths g W' v r.out)

theorem BlockIs.eleven {W : World} {B : Nat} {t : TypeId} {a0 a1 a2 a3 a4 a5 a6 a7 a8 a9 a10 : Value} (h : BlockIs W B t #[a0, a1, a2, a3, a4, a5, a6, a7, a8, a9, a10]) :
    (W.cell? ⟨B, 0, none⟩ = some a0 ∧ W.cell? ⟨B, 1, none⟩ = some a1 ∧ W.cell? ⟨B, 2, none⟩ = some a2 ∧ W.cell? ⟨B, 3, none⟩ = some a3 ∧ W.cell? ⟨B, 4, none⟩ = some a4 ∧ W.cell? ⟨B, 5, none⟩ = some a5 ∧ W.cell? ⟨B, 6, none⟩ = some a6 ∧ W.cell? ⟨B, 7, none⟩ = some a7 ∧ W.cell? ⟨B, 8, none⟩ = some a8 ∧ W.cell? ⟨B, 9, none⟩ = some a9 ∧ W.cell? ⟨B, 10, none⟩ = some a10) ∧
    (W.frozen? ⟨B, 0, none⟩ = false ∧ W.frozen? ⟨B, 1, none⟩ = false ∧ W.frozen? ⟨B, 2, none⟩ = false ∧ W.frozen? ⟨B, 3, none⟩ = false ∧ W.frozen? ⟨B, 4, none⟩ = false ∧ W.frozen? ⟨B, 5, none⟩ = false ∧ W.frozen? ⟨B, 6, none⟩ = false ∧ W.frozen? ⟨B, 7, none⟩ = false ∧ W.frozen? ⟨B, 8, none⟩ = false ∧ W.frozen? ⟨B, 9, none⟩ = false ∧ W.frozen? ⟨B, 10, none⟩ = false) :=
  ⟨⟨h.cell 0, h.cell 1, h.cell 2, h.cell 3, h.cell 4, h.cell 5, h.cell 6, h.cell 7, h.cell 8, h.cell 9, h.cell 10⟩, h.frozen 0, h.frozen 1, h.frozen 2, h.frozen 3, h.frozen 4, h.frozen 5, h.frozen 6, h.frozen 7, h.frozen 8, h.frozen 9, h.frozen 10⟩

set_option maxRecDepth 100000 in
set_option maxHeartbeats 2000000 in
theorem says_any (a0 a1 : Int) (A : Option Addr) (n c : Nat) (w : World) : Calls Tryd.prog 59 #[.int .i64 a0, .int .i64 a1, .slice A n c] w fun e w' =>
    e = .returned (.slice (some ⟨w.heap.size, 0, none⟩) 1 1) ∧ w' = w.alloc (.cells #[.int .i64 a0, .int .i64 a1, .slice A n c] 24) := by
  go_enter Tryd.func59, Tryd.ntmps59
  go_wp2
  go_ret
  exact ⟨rfl, rfl⟩

set_option maxRecDepth 100000 in
set_option maxHeartbeats 2000000 in
theorem workIs_any (g : Nat) (m : S24) (i : Int) (w : World) (h7 : w.cell? ⟨g, 7, none⟩ = some (.int .i64 m.f0)) (h8 : w.cell? ⟨g, 8, none⟩ = some (.int .i64 m.f1)) :
    Calls Tryd.prog 97 #[.pointer (some ⟨g, 0, none⟩), .int .i64 i] w fun e w' => e = .returned (.bool (isM m i)) ∧ w' = w := by
  by_cases c : m.f0 = 10
  · have c1 : (m.f0 == 10) = true := beq_iff_eq.2 c
    have hi : isM m i = (m.f1 == i) := by simp [isM, c1]
    clear c
    go_enter Tryd.func97, Tryd.ntmps97
    go_wp2
    go_ret
    exact ⟨by rw [hi]; rfl, rfl⟩
  · have c1 : (m.f0 == 10) = false := beq_eq_false_iff_ne.2 c
    have hi : isM m i = false := by simp [isM, c1]
    clear c
    go_enter Tryd.func97, Tryd.ntmps97
    go_wp2
    go_ret
    exact ⟨by rw [hi]; rfl, rfl⟩

set_option maxRecDepth 100000 in
set_option maxHeartbeats 4000000 in
theorem ends_any (g : Nat) (h : Hd) (m : S24) (A : Option Addr) (cap : Nat) (v0 : Value) (W : World) (hb : BlockIs W g 113 (workCells h m.f0 m.f1 A m.f2.length cap v0)) :
    Calls Tryd.prog 64 #[.pointer (some ⟨g, 0, none⟩)] W (StepPost g m A cap (doEnds h m) W) := by
  have hb' : BlockIs W g 113 #[.int .i64 h.st, .int .i64 h.ch, .int .i64 h.fr, .int .i64 h.be, .string h.us, .string h.wo, .string h.ho, .int .i64 m.f0, .int .i64 m.f1, .slice A m.f2.length cap, v0] := hb
  obtain ⟨⟨c0, c1, c2, c3, c4, c5, c6, c7, c8, c9, c10⟩, f0, f1, f2, f3, f4, f5, f6, f7, f8, f9, f10⟩ := hb'.eleven
  have hg := hb.lt
  have C97 := fun i => workIs_any g m i W c7 c8
  have H97 := Lib.hid C97
  have HB := Lib.hid hb
  clear C97 hb hb'
  unfold doEnds
  by_cases c : isM m 50 = true
  · rw [if_pos c]
    go_enter Tryd.func64, Tryd.ntmps64
    go_wp2_with (first | (go_at_call 97; refine (H97.out _).mono ?_; rintro e w' ⟨rfl, rfl⟩) | (go_at_call 59; refine (says_any _ _ _ _ _ _).mono ?_; rintro e w' ⟨rfl, rfl⟩))
    go_ret
    refine ⟨rfl, ?_, fun _ => ⟨.slice (some ⟨w'.heap.size, 0, none⟩) 1 1, ?_, ?_⟩⟩
    · exact (((Below.refl g w').setCell (p := ⟨g, 0, none⟩) (Nat.le_refl _) _).setCell (p := ⟨g, 10, none⟩) (Nat.le_refl _) _).alloc (by simp; omega) _
    · exact ((HB.out.set 0 _).set 10 _).alloc _
    · refine Meths.one (g := g) (m := ⟨10, 51, []⟩) (A := none) (c := 0) hg ?_ (Nat.le_refl _) (Kd.F_nil k56 _ _)
      have := BlockIs.new ((w'.setCell ⟨g, 0, none⟩ (.int .i64 6)).setCell ⟨g, 10, none⟩ (.slice (some ⟨w'.heap.size, 0, none⟩) 1 1)) 24 #[.int .i64 10, .int .i64 51, .slice none 0 0]
      simpa using this
  · rw [if_neg c]
    have c1 : isM m 50 = false := by simpa using c
    go_enter Tryd.func64, Tryd.ntmps64
    go_wp2_with (go_at_call 97; refine (H97.out _).mono ?_; rintro e w' ⟨rfl, rfl⟩)
    go_ret
    exact ⟨rfl, Below.refl _ _, fun e => by cases e⟩
end Go.Proofs.YtdogcnadopepmaaDoor.M
end

/- text.Pairs; what a connection takes, step by step. -/
section
namespace Go.Proofs.YtdogcnadopepmaaDoor.M
open Go.RowKit Go.Proofs.YtdogcnadopepmaaDoorW.PrintWords Go.Proofs.YtdogcnadopepmaaDoorW.PrintLast Go.Proofs.YtdogcnadopepmaaDoorW.PrintMore Go.Proofs.YtdogcnadopepmaaDoor.H
set_option linter.unusedSimpArgs false
set_option linter.unusedVariables false

theorem indexByte_lt (s : ByteArray) (c : UInt8) (h : 0 ≤ Lib.indexByte s.data.toList c) : Lib.indexByte s.data.toList c + 1 ≤ s.size := by
  obtain ⟨o, ho⟩ : ∃ o : Nat, Lib.indexByte s.data.toList c = o := ⟨(Lib.indexByte s.data.toList c).toNat, by omega⟩
  obtain ⟨h1, _⟩ := Lib.indexByte_some ho
  have := (List.getElem?_eq_some_iff.1 h1).1
  rw [Array.length_toList] at this
  have e : s.data.size = s.size := rfl
  omega

set_option maxRecDepth 100000 in
set_option maxHeartbeats 2000000 in
theorem cut_one (s : ByteArray) (c : UInt8) (w : World) (hsz : s.size ≤ 9223372036854775807) : Calls Tryd.prog 151 #[.string s, .string ⟨#[c]⟩] w fun e w' => e = .returned (.tuple #[.string (cutA s c), .string (cutB s c), .bool (hasB s c)]) ∧ Drawn0 w w' := by
  have C := Go.Proofs.Tryd.stringslite_Index_one s c
  have HC := Lib.hid C
  have hlt := indexByte_lt s c
  unfold cutA cutB hasB
  clear C
  generalize Lib.indexByte s.data.toList c = i at *
  by_cases h : 0 ≤ i
  · have h1 : i ≤ s.size := by have := hlt h; omega
    have h2 : 0 ≤ i + 1 := by omega
    have h3 := hlt h
    have hb : decide (0 ≤ i) = true := decide_eq_true h
    have hs1 : (⟨#[c]⟩ : ByteArray).size = 1 := rfl
    have hw : IntKind.i64.wrap (i + 1) = i + 1 := by
      have e : IntKind.i64.wrap (i + 1) = wrap64 (i + 1) := i64_w _
      rw [e]
      simp only [wrap64]
      omega
    rw [if_pos h, if_pos h, hb]
    clear hlt
    go_enter Tryd.func151, Tryd.ntmps151
    go_wp2_with (go_at_call 140; refine (HC.out _).mono ?_; rintro e w' ⟨rfl, rfl⟩)
    go_quiet (fail)
    go_wp2
    go_ret3
    exact ⟨rfl, by repeat (first | exact Drawn0.refl _ | apply Drawn0.step)⟩
  · have hb : decide (0 ≤ i) = false := decide_eq_false h
    rw [if_neg h, if_neg h, hb]
    clear hlt
    go_enter Tryd.func151, Tryd.ntmps151
    go_wp2_with (go_at_call 140; refine (HC.out _).mono ?_; rintro e w' ⟨rfl, rfl⟩)
    go_ret3
    exact ⟨rfl, Drawn0.refl _⟩

set_option maxRecDepth 100000 in
set_option maxHeartbeats 2000000 in
theorem cut_two (s : ByteArray) (c : UInt8) (w : World) (hsz : s.size ≤ 9223372036854775807) : Calls Tryd.prog 125 #[.string s, .string ⟨#[c]⟩] w fun e w' => e = .returned (.tuple #[.string (cutA s c), .string (cutB s c), .bool (hasB s c)]) ∧ Drawn0 w w' := by
  have C := cut_one s c w hsz
  have HC := Lib.hid C
  clear C hsz
  go_enter Tryd.func125, Tryd.ntmps125
  go_wp2_with (go_at_call 151; refine HC.out.mono ?_; rintro e w' ⟨rfl, ⟨m, rfl⟩⟩)
  go_ret3
  exact ⟨rfl, ⟨m, rfl⟩⟩

theorem restOf_size (s : ByteArray) : (restOf s).size ≤ s.size := by
  have : (restOf s).size = (Lib.trimPrefix s.data.toList [0]).length := by simp [restOf, ByteArray.size]
  rw [this, Lib.trimPrefix]
  have e : s.data.toList.length = s.size := by rw [Array.length_toList]; rfl
  split
  · rw [List.length_drop]; omega
  · omega

set_option maxRecDepth 100000 in
set_option maxHeartbeats 2000000 in
theorem pairs_any (s : ByteArray) (w : World) (hsz : s.size ≤ 9223372036854775807) : Calls Tryd.prog 99 #[.string s] w fun e w' => e = .returned (.tuple #[.string (pairs s).1, .string (pairs s).2.1, .bool (pairs s).2.2]) ∧ Drawn0 w w' := by
  have C1 := Go.Proofs.Tryd.strings_CutPrefix s ⟨#[0]⟩ w
  have C2 := cut_two (restOf s) 0 w (by have := restOf_size s; omega)
  have C3 := Go.Proofs.Tryd.strings_Contains_one (cutB (restOf s) 0) 0
  have e1 : (⟨#[0]⟩ : ByteArray).data.toList = [0] := rfl
  rw [e1, show (⟨(Lib.trimPrefix s.data.toList [0]).toArray⟩ : ByteArray) = restOf s from rfl] at C1
  change ∀ w, Calls Tryd.prog 78 _ w (fun e w' => e = .returned (.bool (hasB (cutB (restOf s) 0) 0)) ∧ w' = w) at C3
  have H1 := Lib.hid C1
  have H2 := Lib.hid C2
  have H3 := Lib.hid C3
  unfold pairs
  clear C1 C2 C3 e1 hsz
  generalize cutB (restOf s) 0 = b at *
  generalize cutA (restOf s) 0 = a at *
  generalize hh : hasB b 0 = h3 at *
  generalize hasB (restOf s) 0 = h2 at *
  generalize Lib.hasPrefix s.data.toList [0] = h1 at *
  generalize restOf s = rs at *
  clear hh
  cases h1 <;> cases h2 <;> cases h3 <;> simp only [Bool.false_eq_true, and_true, and_false, false_and, if_false, if_true, and_self]
  all_goals
    go_enter Tryd.func99, Tryd.ntmps99
    go_wp2_with (first | (go_at_call 124; refine H1.out.mono ?_; rintro e w' ⟨rfl, rfl⟩) | (go_at_call 125; refine H2.out.mono ?_; rintro e w' ⟨rfl, ⟨m, rfl⟩⟩) | (go_at_call 78; refine (H3.out _).mono ?_; rintro e w' ⟨rfl, rfl⟩))
    go_ret3
    exact ⟨rfl, ⟨m, rfl⟩⟩
end Go.Proofs.YtdogcnadopepmaaDoor.M
end

/- serve: what a connection takes, step by step. -/
section
namespace Go.Proofs.YtdogcnadopepmaaDoor.M
open Go.RowKit Go.Proofs.YtdogcnadopepmaaDoorW.PrintWords Go.Proofs.YtdogcnadopepmaaDoorW.PrintLast Go.Proofs.YtdogcnadopepmaaDoorW.PrintMore Go.Proofs.YtdogcnadopepmaaDoor.H
set_option linter.unusedSimpArgs false
set_option linter.unusedVariables false

theorem arg_any (c i : Int) (A : Option Addr) (cap : Nat) (l : List S56) (j : Nat) (w : World) (hr : Kd.C k56 w A l.length l) (hc : l.length ≤ cap) :
    Calls Tryd.prog 98 #[.agg #[.int .i64 c, .int .i64 i, .slice A l.length cap], .int .i64 (j : Int)] w fun e w' => e = .returned (.agg #[.int .u64 (argAt l j).f0, .string (argAt l j).f1]) ∧ Below w.heap.size w w' := by
  refine method_Arg.calls c i A cap l j _ _ w hr hc ?_
  unfold method_Arg.f
  rw [if_neg (by omega)]
  by_cases h : (j : Int) ≥ (l.length : Int)
  · rw [if_pos h]
    have : argAt l j = z56 := by
      unfold argAt
      rw [List.getD_eq_getElem?_getD, List.getElem?_eq_none (by omega)]
      rfl
    rw [this]
    rfl
  · rw [if_neg h, if_pos (by omega), if_pos (by omega)]
    simp [argAt, rd_T56]

theorem field56_0 (w : World) (x : Int) (s : ByteArray) : (Instr.field 56 (.agg #[.int .u64 x, .string s]) 0).run Tryd.prog w = .ok (.int .u64 x) w := by kernel_rfl
theorem field56_1 (w : World) (x : Int) (s : ByteArray) : (Instr.field 56 (.agg #[.int .u64 x, .string s]) 1).run Tryd.prog w = .ok (.string s) w := by kernel_rfl
attribute [local go_sem] field56_0 field56_1
theorem meths_said (g : Nat) (U : World) (c i : Int) (l : List S56) (hl : l.length ≤ 9223372036854775807) (hg : g < U.heap.size) :
    Meths g ((U.alloc (.cells (flat56 l).toArray 56)).alloc (.cells #[.int .i64 c, .int .i64 i, .slice (some ⟨U.heap.size, 0, none⟩) l.length l.length] 24)) (.slice (some ⟨U.heap.size + 1, 0, none⟩) 1 1) [⟨c, i, l⟩] := by
  have h1 := BlockIs.new U 56 (flat56 l).toArray
  have h2 := BlockIs.new (U.alloc (.cells (flat56 l).toArray 56)) 24 #[.int .i64 c, .int .i64 i, .slice (some ⟨U.heap.size, 0, none⟩) l.length l.length]
  rw [show (U.alloc (.cells (flat56 l).toArray 56)).heap.size = U.heap.size + 1 by simp] at h2
  exact Meths.one (m := ⟨c, i, l⟩) (by omega) h2 (Nat.le_refl _) (F56_of (h1.alloc _) hl ⟨hg, by omega⟩)
theorem below_set {g : Nat} {W W' : World} (h : Below g W W') (j : Nat) (v : Value) : Below g W (W'.setCell ⟨g, j, none⟩ v) := h.setCell (p := ⟨g, j, none⟩) (Nat.le_refl _) v

set_option maxRecDepth 100000 in
set_option maxHeartbeats 4000000 in
theorem closing_any (g : Nat) (h : Hd) (m : S24) (A : Option Addr) (cap : Nat) (W : World) (hb : BlockIs W g 113 (workCells h m.f0 m.f1 A m.f2.length cap (.slice none 0 0))) :
    Calls Tryd.prog 65 #[.pointer (some ⟨g, 0, none⟩)] W (StepPost g m A cap (doClosing h m) W) := by
  have hb' : BlockIs W g 113 #[.int .i64 h.st, .int .i64 h.ch, .int .i64 h.fr, .int .i64 h.be, .string h.us, .string h.wo, .string h.ho, .int .i64 m.f0, .int .i64 m.f1, .slice A m.f2.length cap, .slice none 0 0] := hb
  obtain ⟨⟨c0, c1, c2, c3, c4, c5, c6, c7, c8, c9, c10⟩, f0, f1, f2, f3, f4, f5, f6, f7, f8, f9, f10⟩ := hb'.eleven
  have hg := hb.lt
  have C97 := fun i => workIs_any g m i W c7 c8
  have H97 := Lib.hid C97
  have HB := Lib.hid hb
  clear C97 hb hb'
  unfold doClosing
  by_cases c : isM m 51 = true
  · rw [if_pos c]
    go_enter Tryd.func65, Tryd.ntmps65
    go_wp2_with (go_at_call 97; refine (H97.out _).mono ?_; rintro e w' ⟨rfl, rfl⟩)
    go_ret
    exact ⟨rfl, below_set (Below.refl _ _) 0 _, fun _ => ⟨.slice none 0 0, HB.out.set 0 _, Meths.nil _⟩⟩
  · rw [if_neg c]
    have ci : isM m 51 = false := by simpa using c
    clear c
    by_cases c : isM m 50 = true
    · rw [if_pos c]
      go_enter Tryd.func65, Tryd.ntmps65
      go_wp2_with (first | (go_at_call 97; refine (H97.out _).mono ?_; rintro e w' ⟨rfl, rfl⟩) | (go_at_call 59; refine (says_any _ _ _ _ _ _).mono ?_; rintro e w' ⟨rfl, rfl⟩))
      go_ret
      refine ⟨rfl, ?_, fun _ => ⟨.slice (some ⟨w'.heap.size, 0, none⟩) 1 1, ?_, ?_⟩⟩
      · exact (below_set (Below.refl _ _) 10 _).alloc (by simp; omega) _
      · exact (HB.out.set 10 _).alloc _
      · refine Meths.one (g := g) (m := ⟨10, 51, []⟩) (A := none) (c := 0) hg ?_ (Nat.le_refl _) (Kd.F_nil k56 _ _)
        have := BlockIs.new (w'.setCell ⟨g, 10, none⟩ (.slice (some ⟨w'.heap.size, 0, none⟩) 1 1)) 24 #[.int .i64 10, .int .i64 51, .slice none 0 0]
        simpa using this
    · rw [if_neg c]
      have cj : isM m 50 = false := by simpa using c
      clear c
      go_enter Tryd.func65, Tryd.ntmps65
      go_wp2_with (go_at_call 97; refine (H97.out _).mono ?_; rintro e w' ⟨rfl, rfl⟩)
      go_ret
      exact ⟨rfl, Below.refl _ _, fun _ => ⟨.slice none 0 0, HB.out, Meths.nil _⟩⟩

set_option maxRecDepth 100000 in
set_option maxHeartbeats 4000000 in
theorem open_any (g : Nat) (h : Hd) (m : S24) (A : Option Addr) (cap : Nat) (W : World) (hb : BlockIs W g 113 (workCells h m.f0 m.f1 A m.f2.length cap (.slice none 0 0))) (hr : Kd.C k56 W A m.f2.length m.f2) (hc : m.f2.length ≤ cap) :
    Calls Tryd.prog 63 #[.pointer (some ⟨g, 0, none⟩)] W (StepPost g m A cap (doOpen h m) W) := by
  have hb' : BlockIs W g 113 #[.int .i64 h.st, .int .i64 h.ch, .int .i64 h.fr, .int .i64 h.be, .string h.us, .string h.wo, .string h.ho, .int .i64 m.f0, .int .i64 m.f1, .slice A m.f2.length cap, .slice none 0 0] := hb
  obtain ⟨⟨c0, c1, c2, c3, c4, c5, c6, c7, c8, c9, c10⟩, f0, f1, f2, f3, f4, f5, f6, f7, f8, f9, f10⟩ := hb'.eleven
  have hg := hb.lt
  have C97 := fun i => workIs_any g m i W c7 c8
  have C64 := ends_any g h m A cap _ W hb
  have C98 := arg_any m.f0 m.f1 A cap m.f2 0 W hr hc
  have H97 := Lib.hid C97
  have H64 := Lib.hid C64
  have H98 := Lib.hid C98
  have HB := Lib.hid hb
  clear C97 C64 C98 hb hb' hr hc
  unfold doOpen
  by_cases c : isM m 40 = true
  · rw [if_pos c]
    go_enter Tryd.func63, Tryd.ntmps63
    go_wp2_with (first | (go_at_call 97; refine (H97.out _).mono ?_; rintro e w' ⟨rfl, rfl⟩) | (go_at_call 98; refine H98.out.mono ?_; rintro e w2 ⟨rfl, hb2⟩; have HB2 := Lib.hid (HB.out.below hb2 hg); have hb3 : BlockIs w2 g 113 #[.int .i64 h.st, .int .i64 h.ch, .int .i64 h.fr, .int .i64 h.be, .string h.us, .string h.wo, .string h.ho, .int .i64 m.f0, .int .i64 m.f1, .slice A m.f2.length cap, .slice none 0 0] := HB2.out; obtain ⟨⟨d0, d1, d2, d3, d4, d5, d6, d7, d8, d9, d10⟩, e0, e1, e2, e3, e4, e5, e6, e7, e8, e9, e10⟩ := hb3.eleven; have hg2 := hb3.lt; have HL := Lib.hid hb2; clear hb2 hb3) | (go_at_call 59; refine (says_any _ _ _ _ _ _).mono ?_; rintro e w' ⟨rfl, rfl⟩))
    go_ret
    refine ⟨rfl, ?_, fun _ => ⟨.slice (some ⟨w2.heap.size + 1, 0, none⟩) 1 1, ?_, ?_⟩⟩
    · have := HL.out.size
      exact ((below_set (below_set (below_set (below_up (Below.refl g w') (by omega) HL.out) 6 _) 0 _) 10 _).alloc (by simp; omega) _).alloc (by simp; omega) _
    · exact ((((HB2.out.set 6 _).set 0 _).set 10 _).alloc _).alloc _
    · have := meths_said g (((w2.setCell ⟨g, 6, none⟩ (.string (argAt m.f2 0).f1)).setCell ⟨g, 0, none⟩ (.int .i64 4)).setCell ⟨g, 10, none⟩ (.slice (some ⟨w2.heap.size + 1, 0, none⟩) 1 1)) 10 41 [⟨0, ⟨#[]⟩⟩] (by decide) (by simpa using hg2)
      simpa [flat56] using this
  · rw [if_neg c]
    have ci : isM m 40 = false := by simpa using c
    clear c
    go_enter Tryd.func63, Tryd.ntmps63
    go_wp2_with (first | (go_at_call 97; refine (H97.out _).mono ?_; rintro e w' ⟨rfl, rfl⟩) | (go_at_call 64; refine H64.out.mono ?_; rintro e w2 ⟨rfl, hb2, hk⟩; have HK := Lib.hid hk; clear hk))
    go_ret
    exact ⟨rfl, hb2, HK.out⟩
end Go.Proofs.YtdogcnadopepmaaDoor.M
end

/- serve: start-ok. -/
section
namespace Go.Proofs.YtdogcnadopepmaaDoor.M
open Go.RowKit Go.Proofs.YtdogcnadopepmaaDoorW.PrintWords Go.Proofs.YtdogcnadopepmaaDoorW.PrintLast Go.Proofs.YtdogcnadopepmaaDoorW.PrintMore Go.Proofs.YtdogcnadopepmaaDoor.H
set_option linter.unusedSimpArgs false
set_option linter.unusedVariables false
attribute [local go_sem] field56_0 field56_1

theorem meths_said2 (U : World) (c i : Int) (l : List S56) (hl : l.length ≤ 9223372036854775807) (g j : Nat) (u : Value) (hg : g < U.heap.size) :
    Meths g (((U.alloc (.cells (flat56 l).toArray 56)).alloc (.cells #[.int .i64 c, .int .i64 i, .slice (some ⟨U.heap.size, 0, none⟩) l.length l.length] 24)).setCell ⟨g, j, none⟩ u) (.slice (some ⟨U.heap.size + 1, 0, none⟩) 1 1) [⟨c, i, l⟩] := by
  have h1 := ((BlockIs.new U 56 (flat56 l).toArray).alloc (.cells #[.int .i64 c, .int .i64 i, .slice (some ⟨U.heap.size, 0, none⟩) l.length l.length] 24)).other ⟨g, j, none⟩ u (by simp; omega)
  have h2 := BlockIs.new (U.alloc (.cells (flat56 l).toArray 56)) 24 #[.int .i64 c, .int .i64 i, .slice (some ⟨U.heap.size, 0, none⟩) l.length l.length]
  rw [show (U.alloc (.cells (flat56 l).toArray 56)).heap.size = U.heap.size + 1 by simp] at h2
  exact Meths.one (m := ⟨c, i, l⟩) (by omega) (h2.other ⟨g, j, none⟩ u (by simp; omega)) (Nat.le_refl _) (F56_of h1 hl ⟨hg, by omega⟩)
/-- The connection's block in a later world, with all it says of the cells. -/
theorem work_later {g n : Nat} {h : Hd} {m : S24} {A : Option Addr} {cap : Nat} {W W' : World} (hb : BlockIs W g 113 (workCells h m.f0 m.f1 A m.f2.length cap (.slice none 0 0))) (hl : Below n W W') (hn : g < n) : BlockIs W' g 113 (workCells h m.f0 m.f1 A m.f2.length cap (.slice none 0 0)) := hb.below hl hn

set_option maxRecDepth 100000 in
set_option maxHeartbeats 1000000 in
theorem start_any (g : Nat) (h : Hd) (m : S24) (A : Option Addr) (cap : Nat) (W : World) (hb : BlockIs W g 113 (workCells h m.f0 m.f1 A m.f2.length cap (.slice none 0 0))) (hr : Kd.C k56 W A m.f2.length m.f2) (hc : m.f2.length ≤ cap) (hsz : (argAt m.f2 2).f1.size ≤ 9223372036854775807) :
    Calls Tryd.prog 61 #[.pointer (some ⟨g, 0, none⟩)] W (StepPost g m A cap (doStart h m) W) := by
  have hb' : BlockIs W g 113 #[.int .i64 h.st, .int .i64 h.ch, .int .i64 h.fr, .int .i64 h.be, .string h.us, .string h.wo, .string h.ho, .int .i64 m.f0, .int .i64 m.f1, .slice A m.f2.length cap, .slice none 0 0] := hb
  obtain ⟨⟨c0, c1, c2, c3, c4, c5, c6, c7, c8, c9, c10⟩, f0, f1, f2, f3, f4, f5, f6, f7, f8, f9, f10⟩ := hb'.eleven
  have hg := hb.lt
  have C97 := fun i => (workIs_any g m i W c7 c8).mono (R' := fun e w' => e = .returned (.bool (isM m i)) ∧ W = w') (fun e w' h => ⟨h.1, h.2.symm⟩)
  have C64 := ends_any g h m A cap _ W hb
  have C98 := fun j W2 (hb2 : Below W.heap.size W W2) => arg_any m.f0 m.f1 A cap m.f2 j W2 (Kd.C_below hr hb2) hc
  have CP := fun W => pairs_any (argAt m.f2 2).f1 W hsz
  have H97 := Lib.hid C97
  have H64 := Lib.hid C64
  have H98 := Lib.hid C98
  have HP := Lib.hid CP
  have HB := Lib.hid hb
  have HL := Lib.hid (Below.refl W.heap.size W)
  clear C97 C64 C98 CP hb hb' hr hc hsz
  unfold doStart
  by_cases c : isM m 11 = true
  · rw [if_pos c]
    by_cases cp : (argAt m.f2 1).f1.toList = plainWord
    · rw [if_pos cp]
      have cpb : ((argAt m.f2 1).f1.toList == [80, 76, 65, 73, 78]) = true := beq_iff_eq.2 cp
      clear cp
      generalize pairs (argAt m.f2 2).f1 = pp at *
      obtain ⟨pu, pw, pi⟩ := pp
      dsimp only at *
      cases pi
      · simp only [Bool.false_eq_true, if_false]
        go_enter Tryd.func61, Tryd.ntmps61
        go_wp2_with (first | (go_at_call 97; refine (H97.out _).mono ?_; rintro e w' ⟨rfl, rfl⟩) | (go_at_call 98; refine (H98.out _ _ HL.out).mono ?_; rintro e w2 ⟨rfl, hb2⟩; have HL := Lib.hid (below_up HL.out HL.out.size hb2); have HB := Lib.hid (work_later HB.out hb2 (by first | omega | exact HB.out.lt)); have hb3 : BlockIs w2 g 113 #[.int .i64 h.st, .int .i64 h.ch, .int .i64 h.fr, .int .i64 h.be, .string h.us, .string h.wo, .string h.ho, .int .i64 m.f0, .int .i64 m.f1, .slice A m.f2.length cap, .slice none 0 0] := HB.out; obtain ⟨⟨d0, d1, d2, d3, d4, d5, d6, d7, d8, d9, d10⟩, e0, e1, e2, e3, e4, e5, e6, e7, e8, e9, e10⟩ := hb3.eleven; have hg2 := hb3.lt; clear hb2 hb3) | (go_at_call 59; refine (says_any _ _ _ _ _ _).mono ?_; rintro e w' ⟨rfl, rfl⟩) | (go_at_call 99; refine (HP.out _).mono ?_; rintro e w' ⟨rfl, ⟨q1, rfl⟩⟩))
        go_ret
        exact ⟨rfl, pw_below_drewN (below_up (Below.refl g _) (by omega) HL.out) q1, fun e => by cases e⟩
      · simp only [if_true]
        go_enter Tryd.func61, Tryd.ntmps61
        go_upto_region 8 with (first | (go_at_call 97; refine (H97.out _).mono ?_; rintro e w' ⟨rfl, rfl⟩) | (go_at_call 98; refine (H98.out _ _ HL.out).mono ?_; rintro e w2 ⟨rfl, hb2⟩; have HL := Lib.hid (below_up HL.out HL.out.size hb2); have HB := Lib.hid (work_later HB.out hb2 (by first | omega | exact HB.out.lt)); have hb3 : BlockIs w2 g 113 #[.int .i64 h.st, .int .i64 h.ch, .int .i64 h.fr, .int .i64 h.be, .string h.us, .string h.wo, .string h.ho, .int .i64 m.f0, .int .i64 m.f1, .slice A m.f2.length cap, .slice none 0 0] := HB.out; obtain ⟨⟨d0, d1, d2, d3, d4, d5, d6, d7, d8, d9, d10⟩, e0, e1, e2, e3, e4, e5, e6, e7, e8, e9, e10⟩ := hb3.eleven; have hg2 := hb3.lt; clear hb2 hb3) | (go_at_call 59; refine (says_any _ _ _ _ _ _).mono ?_; rintro e w' ⟨rfl, rfl⟩) | (go_at_call 99; refine (HP.out _).mono ?_; rintro e w' ⟨rfl, ⟨q1, rfl⟩⟩))
        have HB5 := Lib.hid (work_later HB.out (pw_below_drewN (Below.refl w2.heap.size w2) q1) HB.out.lt)
        have HL5 := Lib.hid (pw_below_drewN (below_up (Below.refl g W) (by omega) HL.out) q1)
        have hg5 : g < (w2.drewN q1).heap.size := hg2
        generalize w2.drewN q1 = V at HB5 HL5 hg5 ⊢
        clear c0 c1 c2 c3 c4 c5 c6 c7 c8 c9 c10 f0 f1 f2 f3 f4 f5 f6 f7 f8 f9 f10 d0 d1 d2 d3 d4 d5 d6 d7 d8 d9 d10 e0 e1 e2 e3 e4 e5 e6 e7 e8 e9 e10 hg2 hg HB HL
        have hb3 : BlockIs V g 113 #[.int .i64 h.st, .int .i64 h.ch, .int .i64 h.fr, .int .i64 h.be, .string h.us, .string h.wo, .string h.ho, .int .i64 m.f0, .int .i64 m.f1, .slice A m.f2.length cap, .slice none 0 0] := HB5.out
        obtain ⟨⟨d0, d1, d2, d3, d4, d5, d6, d7, d8, d9, d10⟩, e0, e1, e2, e3, e4, e5, e6, e7, e8, e9, e10⟩ := hb3.eleven
        clear hb3
        go_wp2_with (go_at_call 59; fail)
        refine (says_any _ _ _ _ _ _).mono ?_
        rintro e w' ⟨rfl, rfl⟩
        dsimp only
        have hV : ∃ V2, V2 = (((((((V.setCell ⟨g, 4, none⟩ (.string pu)).setCell ⟨g, 5, none⟩ (.string pw)).setCell ⟨g, 0, none⟩ (.int .i64 2)).alloc (.cells #[.int .i64 h.ch, .int .i64 h.fr, .int .i64 h.be] 40)).alloc
            (.cells #[.int .u64 (IntKind.u64.wrap h.ch), .string ⟨#[]⟩, .int .u64 (IntKind.u64.wrap h.fr), .string ⟨#[]⟩, .int .u64 (IntKind.u64.wrap h.be), .string ⟨#[]⟩] 56)).alloc (.cells #[.int .i64 10, .int .i64 30, .slice (some ⟨V.heap.size + 1, 0, none⟩) 3 3] 24))) := ⟨_, rfl⟩
        obtain ⟨V2, hV2⟩ := hV
        have hs : (((V.setCell ⟨g, 4, none⟩ (.string pu)).setCell ⟨g, 5, none⟩ (.string pw)).setCell ⟨g, 0, none⟩ (.int .i64 2)).heap.size = V.heap.size := by simp
        have hs2 : ((((V.setCell ⟨g, 4, none⟩ (.string pu)).setCell ⟨g, 5, none⟩ (.string pw)).setCell ⟨g, 0, none⟩ (.int .i64 2)).alloc (.cells #[.int .i64 h.ch, .int .i64 h.fr, .int .i64 h.be] 40)).heap.size = V.heap.size + 1 := by simp
        have b6 : BlockIs V2 g 113 (workCells { h with us := pu, wo := pw, st := 2 } m.f0 m.f1 A m.f2.length cap (.slice none 0 0)) := by
          rw [hV2]
          exact ((((((HB5.out.set 4 _).set 5 _).set 0 _).alloc _).alloc _).alloc _)
        have l6 : Below g W V2 := by
          rw [hV2]
          have := HL5.out.size
          exact (((below_set (below_set (below_set HL5.out 4 _) 5 _) 0 _).alloc (by simp; omega) _).alloc (by simp; omega) _).alloc (by simp; omega) _
        have m6 : Meths g V2 (.slice (some ⟨V.heap.size + 1 + 1, 0, none⟩) 1 1) [⟨10, 30, [num56 h.ch, num56 h.fr, num56 h.be]⟩] := by
          rw [hV2]
          have := meths_said g ((((V.setCell ⟨g, 4, none⟩ (.string pu)).setCell ⟨g, 5, none⟩ (.string pw)).setCell ⟨g, 0, none⟩ (.int .i64 2)).alloc (.cells #[.int .i64 h.ch, .int .i64 h.fr, .int .i64 h.be] 40)) 10 30 [num56 h.ch, num56 h.fr, num56 h.be] (by simp) (by rw [hs2]; omega)
          rw [hs2] at this
          exact this
        have n6 : ∀ u, Meths g (V2.setCell ⟨g, 10, none⟩ u) (.slice (some ⟨V.heap.size + 1 + 1, 0, none⟩) 1 1) [⟨10, 30, [num56 h.ch, num56 h.fr, num56 h.be]⟩] := by
          intro u
          rw [hV2]
          have := meths_said2 ((((V.setCell ⟨g, 4, none⟩ (.string pu)).setCell ⟨g, 5, none⟩ (.string pw)).setCell ⟨g, 0, none⟩ (.int .i64 2)).alloc (.cells #[.int .i64 h.ch, .int .i64 h.fr, .int .i64 h.be] 40)) 10 30 [num56 h.ch, num56 h.fr, num56 h.be] (by simp) g 10 u (by rw [hs2]; omega)
          rw [hs2] at this
          exact this
        have k6 := b6.cell 10
        have k7 := b6.frozen 10
        have k8 := b6.lt
        simp only [workCells, List.getElem?_toArray, List.getElem?_cons_zero, List.getElem?_cons_succ] at k6
        have hz : ((((((V.setCell ⟨g, 4, none⟩ (.string pu)).setCell ⟨g, 5, none⟩ (.string pw)).setCell ⟨g, 0, none⟩ (.int .i64 2)).alloc (.cells #[.int .i64 h.ch, .int .i64 h.fr, .int .i64 h.be] 40)).alloc
            (.cells #[.int .u64 (IntKind.u64.wrap h.ch), .string ⟨#[]⟩, .int .u64 (IntKind.u64.wrap h.fr), .string ⟨#[]⟩, .int .u64 (IntKind.u64.wrap h.be), .string ⟨#[]⟩] 56))).heap.size = V.heap.size + 1 + 1 := by simp
        rw [← hV2, hz]
        have B6 := Lib.hid b6
        have L6 := Lib.hid l6
        have M6 := Lib.hid m6
        have N6 := Lib.hid n6
        clear hV2 b6 l6 m6 n6 hs hs2 hz
        clear d0 d1 d2 d3 d4 d5 d6 d7 d8 d9 d10 e0 e1 e2 e3 e4 e5 e6 e7 e8 e9 e10
        go_wp2
        go_ret
        exact ⟨rfl, below_set L6.out 10 _, fun _ => ⟨.slice (some ⟨V.heap.size + 1 + 1, 0, none⟩) 1 1, B6.out.set 10 _, N6.out _⟩⟩
    · rw [if_neg cp]
      have cpb : ((argAt m.f2 1).f1.toList == [80, 76, 65, 73, 78]) = false := beq_eq_false_iff_ne.2 cp
      clear cp
      go_enter Tryd.func61, Tryd.ntmps61
      go_wp2_with (first | (go_at_call 97; refine (H97.out _).mono ?_; rintro e w' ⟨rfl, rfl⟩) | (go_at_call 98; refine (H98.out _ _ HL.out).mono ?_; rintro e w2 ⟨rfl, hb2⟩; have HL := Lib.hid (below_up HL.out HL.out.size hb2); have HB := Lib.hid (work_later HB.out hb2 (by first | omega | exact HB.out.lt)); have hb3 : BlockIs w2 g 113 #[.int .i64 h.st, .int .i64 h.ch, .int .i64 h.fr, .int .i64 h.be, .string h.us, .string h.wo, .string h.ho, .int .i64 m.f0, .int .i64 m.f1, .slice A m.f2.length cap, .slice none 0 0] := HB.out; obtain ⟨⟨d0, d1, d2, d3, d4, d5, d6, d7, d8, d9, d10⟩, e0, e1, e2, e3, e4, e5, e6, e7, e8, e9, e10⟩ := hb3.eleven; have hg2 := hb3.lt; clear hb2 hb3) | (go_at_call 59; refine (says_any _ _ _ _ _ _).mono ?_; rintro e w' ⟨rfl, rfl⟩) | (go_at_call 99; refine (HP.out _).mono ?_; rintro e w' ⟨rfl, ⟨q1, rfl⟩⟩))
      go_ret
      exact ⟨rfl, below_up (Below.refl g _) (by omega) HL.out, fun e => by cases e⟩
  · rw [if_neg c]
    have ci : isM m 11 = false := by simpa using c
    clear c
    go_enter Tryd.func61, Tryd.ntmps61
    go_wp2_with (first | (go_at_call 97; refine (H97.out _).mono ?_; rintro e w' ⟨rfl, rfl⟩) | (go_at_call 64; refine H64.out.mono ?_; rintro e w2 ⟨rfl, hb2, hk⟩; have HK := Lib.hid hk; clear hk))
    go_ret
    exact ⟨rfl, hb2, HK.out⟩
end Go.Proofs.YtdogcnadopepmaaDoor.M
end
