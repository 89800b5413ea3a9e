/- Texts of this seat's, one behind the other (merge.py). -/
import Derived.WalkKit
import Derived.KernelRfl
import Derived.Test.YtdogcnadopepmaaDoorProg
import Derived.Below
import Derived.Deep.WholeRow
import Derived.RangeFuncNested
import Derived.RangeFuncBound
import Derived.RangeFuncCalls
import Derived.RangeFuncLeaves
import Derived.Shelf.Abstract
import Derived.OwnWalkIn
import Derived.TacticsInMore
import Derived.LoopNIn
import Derived.LoopIn
import Derived.Lib.Hide
import Derived.ChangeKeysEq
/- Plain tools for walks: operations that touch no memory are run by the kernel, whole regions at once; maps that the call itself lays. -/
section
namespace Go.Proofs.YtdogcnadopepmaaDoor.M
open Go.RowKit

/-- What a piece of the model answers that asks nothing of the world. -/
def pureRun {α : Type} (P : Program) : Sem α → Option α
  | .pure a => some a
  | .program k => pureRun P (k P)
  | _ => none

theorem run_of_pureRun {α : Type} (P : Program) : ∀ (m : Sem α) (a : α), pureRun P m = some a → ∀ w, m.run P w = .ok a w := by
  intro m
  induction m with
  | pure a => intro b h w; simp only [pureRun, Option.some.injEq] at h; subst h; rfl
  | program k ih => intro b h w; simp only [pureRun] at h; simp only [Sem.run]; exact ih P b h w
  | _ => intro b h; simp [pureRun] at h

/-- A row of operations that touch no memory. -/
def pureList (P : Program) : List Oper → Array Value → Option (Array Value)
  | [], t => some t
  | o :: l, t =>
    match o.guard, o.dst, pureRun P (execOp ({ tmps := t, defers := [] } : Act).eval o) with
    | none, some d, some (.value v) => pureList P l (t.setIfInBounds d v)
    | _, _, _ => none

theorem eval_tmps (t : Array Value) (d d' : List Deferred) : ({ tmps := t, defers := d } : Act).eval = ({ tmps := t, defers := d' } : Act).eval := by
  funext x
  cases x <;> rfl

theorem wpList_pure {P : Program} {ops : Array Oper} {Q : Exit → Act → World → Prop} (rest : List Oper) : ∀ (l : List Oper) (t : Array Value) (d : List Deferred) (t' : Array Value) (w : World),
    pureList P l t = some t' → wpList P ops Q rest { tmps := t', defers := d } w → wpList P ops Q (l ++ rest) { tmps := t, defers := d } w := by
  intro l
  induction l with
  | nil => intro t d t' w h hq; simp only [pureList, Option.some.injEq] at h; subst h; exact hq
  | cons o l ih =>
    intro t d t' w h hq
    simp only [pureList] at h
    cases hg : o.guard with
    | some g => simp [hg] at h
    | none =>
      cases hd : o.dst with
      | none => simp [hg, hd] at h
      | some e =>
        cases hp : pureRun P (execOp ({ tmps := t, defers := [] } : Act).eval o) with
        | none => simp [hg, hd, hp] at h
        | some nx =>
          cases nx with
          | value v =>
            simp only [hg, hd, hp] at h
            refine wpList_plain hg (fun K hK => ?_)
            unfold Oper.wp
            rw [eval_tmps t d [], run_of_pureRun P _ _ hp w, Oper.upon_value]
            refine hK _ _ ?_
            simp only [Act.put, hd]
            exact ih _ _ _ _ h hq
          | _ => simp [hg, hd, hp] at h

theorem wp_region_pure {P : Program} {id : Nat} {ops : List Oper} {Q : Exit → Act → World → Prop} {t t' : Array Value} {d : List Deferred} {w : World} (n : Nat)
    (h : pureList P (ops.take n) t = some t') (hq : wpList P ops.toArray Q (ops.drop n) { tmps := t', defers := d } w) :
    (Code.region id ops.toArray false).wp P Q { tmps := t, defers := d } w := by
  refine wp_region_list ?_
  have := wpList_pure (P := P) (ops := ops.toArray) (Q := Q) (ops.drop n) (ops.take n) t d t' w h hq
  rwa [List.take_append_drop] at this

end Go.Proofs.YtdogcnadopepmaaDoor.M
end

/- The rows of the program's table of methods: what sig.rows answers; reading one of them. -/
section
namespace Go.Proofs.YtdogcnadopepmaaDoor.M
open Go.RowKit

/-- A row: class, id, signature, side, two replies. -/
structure SRow where
  c : Int
  i : Int
  s : List UInt8
  side : Int
  r0 : Int
  r1 : Int
def sigRows : List SRow := [⟨10, 10, [111, 111, 84, 76, 76], 2, 11, 0⟩,
  ⟨10, 11, [84, 83, 76, 83], 1, 0, 0⟩,
  ⟨10, 20, [76], 2, 21, 0⟩,
  ⟨10, 21, [76], 1, 0, 0⟩,
  ⟨10, 30, [115, 108, 115], 2, 31, 0⟩,
  ⟨10, 31, [115, 108, 115], 1, 0, 0⟩,
  ⟨10, 40, [83, 83, 98], 1, 41, 0⟩,
  ⟨10, 41, [83], 2, 0, 0⟩,
  ⟨10, 50, [115, 83, 115, 115], 3, 51, 0⟩,
  ⟨10, 51, [], 3, 0, 0⟩,
  ⟨10, 60, [83], 2, 0, 0⟩,
  ⟨10, 61, [], 2, 0, 0⟩,
  ⟨20, 10, [83], 1, 11, 0⟩,
  ⟨20, 11, [76], 2, 0, 0⟩,
  ⟨20, 20, [98], 3, 21, 0⟩,
  ⟨20, 21, [98], 3, 0, 0⟩,
  ⟨20, 40, [115, 83, 115, 115], 3, 41, 0⟩,
  ⟨20, 41, [], 3, 0, 0⟩,
  ⟨40, 10, [115, 83, 83, 98, 98, 98, 98, 98, 84], 1, 11, 0⟩,
  ⟨40, 11, [], 2, 0, 0⟩,
  ⟨40, 20, [115, 83, 98, 98], 1, 21, 0⟩,
  ⟨40, 21, [], 2, 0, 0⟩,
  ⟨50, 10, [115, 83, 98, 98, 98, 98, 98, 84], 1, 11, 0⟩,
  ⟨50, 11, [83, 108, 108], 2, 0, 0⟩,
  ⟨50, 20, [115, 83, 83, 83, 98, 84], 1, 21, 0⟩,
  ⟨50, 21, [], 2, 0, 0⟩,
  ⟨50, 30, [115, 83, 98], 1, 31, 0⟩,
  ⟨50, 31, [108], 2, 0, 0⟩,
  ⟨50, 40, [115, 83, 98, 98, 98], 1, 41, 0⟩,
  ⟨50, 41, [108], 2, 0, 0⟩,
  ⟨50, 50, [115, 83, 83, 83, 84], 1, 51, 0⟩,
  ⟨50, 51, [], 2, 0, 0⟩,
  ⟨60, 10, [108, 115, 98], 1, 11, 0⟩,
  ⟨60, 11, [], 2, 0, 0⟩,
  ⟨60, 20, [115, 83, 83, 98, 98, 98, 98, 84], 1, 21, 0⟩,
  ⟨60, 21, [83], 2, 0, 0⟩,
  ⟨60, 30, [83, 98], 1, 31, 0⟩,
  ⟨60, 31, [83], 2, 0, 0⟩,
  ⟨60, 40, [115, 83, 83, 98, 98], 1, 0, 0⟩,
  ⟨60, 50, [115, 83, 83, 83], 2, 0, 0⟩,
  ⟨60, 60, [83, 113, 98, 83, 83], 2, 0, 0⟩,
  ⟨60, 70, [115, 83, 98], 1, 71, 72⟩,
  ⟨60, 71, [113, 98, 83, 83, 108], 2, 0, 0⟩,
  ⟨60, 72, [83], 2, 0, 0⟩,
  ⟨60, 80, [113, 98], 3, 0, 0⟩,
  ⟨60, 90, [113, 98], 1, 0, 0⟩,
  ⟨60, 100, [98], 1, 0, 0⟩,
  ⟨60, 110, [98], 1, 111, 0⟩,
  ⟨60, 111, [], 2, 0, 0⟩,
  ⟨60, 120, [113, 98, 98], 3, 0, 0⟩,
  ⟨85, 10, [98], 1, 11, 0⟩,
  ⟨85, 11, [], 2, 0, 0⟩,
  ⟨90, 10, [], 1, 11, 0⟩,
  ⟨90, 11, [], 2, 0, 0⟩,
  ⟨90, 20, [], 1, 21, 0⟩,
  ⟨90, 21, [], 2, 0, 0⟩,
  ⟨90, 30, [], 1, 31, 0⟩,
  ⟨90, 31, [], 2, 0, 0⟩]
def SRow.cells (r : SRow) : List Value := [.int .i64 r.c, .int .i64 r.i, .string ⟨r.s.toArray⟩, .int .i64 r.side, .int .i64 r.r0, .int .i64 r.r1]
def sigCells : List Value := sigRows.flatMap SRow.cells
/-- The rows as one value, behind a name that the walk does not open. -/
def sigAgg : Value := .agg sigCells.toArray


/-- A region's operations, by its number in the function. -/
def opsAt : Code → Nat → List Oper
  | .seq a b, n => opsAt a n ++ opsAt b n
  | .region id ops _, n => if id = n then ops.toList else []
  | _, _ => []

set_option maxRecDepth 100000 in
theorem sig_pure (p : Value) : (pureList Tryd.prog ((opsAt (Tryd.f159.body.getD .ret) 1).take 175) (#[p] ++ Array.replicate 175 undef)).map (fun t => (t.getD 0 undef, t.getD 175 undef)) = some (p, sigAgg) := by kernel_rfl

theorem sig_info : (Tryd.prog.info? 226).map (fun i => (i.zero.map (fun z => z.cells.size), i.size)) = some (some 348, 348) := by kernel_rfl
theorem sig_one : sigCells.toArray.all (·.oneCell') = true := by kernel_rfl
theorem sig_len : sigCells.toArray.size = 348 := by kernel_rfl
theorem sig_und : Tryd.prog.underlying 226 = some (.array 58 136) := by kernel_rfl

end Go.Proofs.YtdogcnadopepmaaDoor.M
end

/- sig.rows, sig.methods, sig.find, sig.at, sig.Of by their contracts. -/
section
namespace Go.Proofs.YtdogcnadopepmaaDoor.M
open Go.RowKit

theorem sig_body : Tryd.f159.body = some (.seq (.region 0 #[{ dst := some 0, op := Op.alloc 226, type := 0, pos := (((opsAt (Tryd.f159.body.getD .ret) 0).head?.map (·.pos)).getD ""), after := #[], guard := none }] false) (.seq (.region 1 (opsAt (Tryd.f159.body.getD .ret) 1).toArray false) .ret)) := by kernel_rfl
theorem sig_last : (opsAt (Tryd.f159.body.getD .ret) 1).drop 175 = [{ dst := none, op := .store 226 (.tmp 0) (.tmp 175), type := 0, pos := (((opsAt (Tryd.f159.body.getD .ret) 1)[175]?.map (·.pos)).getD ""), after := (((opsAt (Tryd.f159.body.getD .ret) 1)[175]?.map (·.after)).getD #[]), guard := none }] := by kernel_rfl
theorem sig_tm (p : Value) : (#[] ++ Array.replicate (Tryd.f159.ntmps - 0) undef : Array Value).setIfInBounds 0 p = #[p] ++ Array.replicate 175 undef := by kernel_rfl

set_option maxRecDepth 100000 in
theorem sigrows (w : World) : Calls Tryd.prog 159 #[] w fun e w' => e = .returned sigAgg ∧ w' = w.alloc (.cells sigCells.toArray 226) := by
  refine calls_of_wp Tryd.func159 sig_body ?_
  generalize opsAt (Tryd.f159.body.getD .ret) 0 = o0
  have hp0 := sig_pure (.pointer (some ⟨w.heap.size, 0, none⟩))
  have hl0 := sig_last
  generalize opsAt (Tryd.f159.body.getD .ret) 1 = o1 at *
  obtain ⟨z, hz, hzs⟩ : ∃ z : Value, (zeroValue 226).run Tryd.prog w = .ok z w ∧ z.cells.size = 348 := by
    have h := sig_info
    cases hq : Tryd.prog.info? 226 with
    | none => simp [hq] at h
    | some i =>
      cases hzz : i.zero with
      | none => simp [hq, hzz] at h
      | some z => exact ⟨z, by simp [zeroValue, typeInfo, hq, hzz], by simp [hq, hzz] at h; exact h.1⟩
  have hsz : (Tryd.prog.info? 226).map (·.size) = some sigCells.toArray.size := by
    rw [sig_len]
    have h := sig_info
    cases hq : Tryd.prog.info? 226 with
    | none => simp [hq] at h
    | some i => simp [hq] at h ⊢; exact h.2
  refine wp_seq_k (fun K hK => wp_region_list (wpList_plain rfl (fun K2 hK2 => ?_)))
  unfold Oper.wp
  have hal : ∀ (ev : Operand → Value) (pos : String), (execOp ev { dst := some 0, op := Op.alloc 226, type := 0, pos := pos, after := #[], guard := none }).run Tryd.prog w =
      .ok (.value (.pointer (some ⟨w.heap.size, 0, none⟩))) (w.alloc (.cells z.cells 226)) := by
    intro ev pos
    simp only [execOp, Instr.alloc, Sem.run_bind, hz, Result.andThen_ok, newVar, newRow, run_newObj_alloc, Sem.run_pure]
  rw [hal, Oper.upon_value]
  refine hK2 _ _ (wpList_nil (hK _ _ (wp_seq_k (fun K3 hK3 => ?_))))
  clear hK hK2 K2 K
  obtain ⟨t', ht', hv⟩ := Option.map_eq_some_iff.1 hp0
  simp only [Prod.mk.injEq] at hv
  have htm := sig_tm (.pointer (some ⟨w.heap.size, 0, none⟩))
  simp only [Act.put, List.size_toArray, List.length_nil]
  rw [htm]
  refine wp_region_pure 175 ht' ?_
  rw [hl0]
  refine wpList_plain rfl (fun K4 hK4 => ?_)
  unfold Oper.wp
  have hst : ∀ (ev : Operand → Value) (o : Oper), o.op = .store 226 (.tmp 0) (.tmp 175) → ev (.tmp 0) = .pointer (some ⟨w.heap.size, 0, none⟩) → ev (.tmp 175) = .agg sigCells.toArray →
      (execOp ev o).run Tryd.prog (w.alloc (.cells z.cells 226)) = .ok .skip (w.alloc (.cells sigCells.toArray 226)) := by
    intro ev o ho h0 h1
    simp only [execOp, ho, h0, h1, Sem.run_bind, run_storeAt_new w 226 z.cells sigCells.toArray hsz (by rw [hzs, sig_len]) sig_one, Result.andThen_ok, Sem.run_pure]
  rw [hst _ _ rfl hv.1 hv.2, Oper.upon_skip]
  refine hK4 _ _ (wpList_nil (hK3 _ _ (wp_ret ?_)))
  refine bodyPost_ret (v := sigAgg) ?_ rfl ⟨rfl, rfl⟩
  exact results_cell_row rfl _ _ w.heap.size 226 sigCells.toArray (0, 0) _ (by simpa [Act.put] using hv.1) (heap_alloc_last w _) sig_und rfl hsz

end Go.Proofs.YtdogcnadopepmaaDoor.M
end

/- The iterator over the rows (sig.methods), and the search in it (sig.find at sig.at's closure). -/
section
namespace Go.Proofs.YtdogcnadopepmaaDoor.M
open Go.RowKit Go.Shelf

theorem wide_fn (f : FuncId) : Fence.wide.fn f = True := rfl
theorem wide_depth : Fence.wide.depth = none := rfl
theorem round_fn (f : FuncId) (l : Nat) : (Fence.wide.inRound l).fn f = True := rfl
theorem round_depth (l : Nat) : (Fence.wide.inRound l).depth = none := rfl
attribute [local go_sem] Oper.semAt_some wide_fn wide_depth round_fn round_depth

def SRow.arr (r : SRow) : Array Value := #[.int .i64 r.c, .int .i64 r.i, .string ⟨r.s.toArray⟩, .int .i64 r.side, .int .i64 r.r0, .int .i64 r.r1]

theorem sig_ix_all : (List.range 58).map (fun k => pureRun Tryd.prog (Instr.index 226 sigAgg (.int .i64 (k : Nat)))) = sigRows.map (fun r => some (.agg r.arr)) := by kernel_rfl
theorem sig_rows_len : sigRows.length = 58 := by kernel_rfl
theorem sig_ix (k : Nat) (r : SRow) (hr : sigRows[k]? = some r) (w : World) : (Instr.index 226 sigAgg (.int .i64 (k : Int))).run Tryd.prog w = .ok (.agg r.arr) w := by
  refine run_of_pureRun _ _ _ ?_ w
  have h := congrArg (fun l => l[k]?) sig_ix_all
  have hk : k < 58 := by
    have := (List.getElem?_eq_some_iff.1 hr).1
    rwa [sig_rows_len] at this
  simp only [List.getElem?_map, hr, Option.map_some, List.getElem?_range hk, Option.some.injEq] at h
  exact h

/-- What has come when k rounds are over. -/
theorem take_snoc_row {k : Nat} {r : SRow} (hr : sigRows[k]? = some r) : sigRows.take (k + 1) = sigRows.take k ++ [r] := by
  rw [List.take_add_one, hr]; rfl

set_option maxRecDepth 100000 in
set_option maxHeartbeats 2000000 in
/-- sig.methods$1: all rows, in order; or the first of them. -/
theorem methods1_in (n : Nat) (l : Nat) (J Jx : List SRow → World → Prop) (W : World) (hJ : AbidesFrom W.heap.size J)
    (hY : ∀ pre x W1, J pre W1 → pre.length < 58 → YieldAt Fence.wide (n - 1) Tryd.prog l #[.agg x.arr] W1 fun e W' =>
      (e = .returned (.bool true) ∧ J (pre ++ [x]) W' ∧ True) ∨ (e = .returned (.bool false) ∧ Jx (pre ++ [x]) W'))
    (h0 : J [] W) :
    CallsIn Fence.wide n Tryd.prog 158 #[.func (.yield l) #[] #[]] W fun e W' => (∃ v, e = .returned v) ∧
      ((∃ xs, xs = sigRows ∧ J xs W') ∨ (∃ pre, (∃ k, pre = sigRows.take (k + 1) ∧ k < 58) ∧ Jx pre W')) := by
  have hJa : ∀ s W1 o, J s W1 → J s (W1.alloc o) := fun s W1 o h => hJ s W1 _ none h (World.grownBy_alloc W1 o none) (fun r e => by cases e)
  refine callsIn_of_wp Tryd.func158 rfl trivial ?_ rfl
  simp only [Tryd.ntmps158, List.size_toArray, List.length_cons, List.length_nil, Nat.reduceAdd, Nat.reduceSub, Array.replicate_succ, Array.replicate_zero, List.push_toArray, List.append_toArray, List.nil_append, List.cons_append]
  have HJ := Lib.hid hJ
  have HY := Lib.hid hY
  clear hJ hY
  gi_wp2_with (gi_at_call 159; refine ((callsIn_wide (n := n - 1)).2 (sigrows _)).mono ?_; rintro e w' ⟨rfl, rfl⟩)


  gi_loopw [5] (fun i wr => ∃ k : Nat, k ≤ 58 ∧ i = .int .i64 k ∧ J (sigRows.take k) wr)
    (fun i _ => 58 - (intOf i).toNat)
  case atStart => exact ⟨0, Nat.zero_le _, rfl, hJa _ _ _ h0⟩
  case round =>
    obtain ⟨k, hk, rfl, hJs⟩ := hrel
    by_cases hlt : k < 58
    · obtain ⟨r, hr⟩ : ∃ r, sigRows[k]? = some r := ⟨_, List.getElem?_eq_getElem (by rw [sig_rows_len]; exact hlt)⟩
      have hix := sig_ix k r hr
      have HR := Lib.hid hr
      clear hr
      simp only [SRow.arr] at hix
      obtain ⟨fn, tmps, assign, body, hy, hR⟩ := HY.out (sigRows.take k) r (wr.alloc (.cells #[.int .i64 r.c, .int .i64 r.i, .string ⟨r.s.toArray⟩, .int .i64 r.side, .int .i64 r.r0, .int .i64 r.r1] 136)) (hJa _ _ _ hJs) (by rw [List.length_take]; omega)
      simp only [SRow.arr] at hy
      gi_wp2
      refine hR.mono ?_
      rintro e W3 (⟨rfl, hJ3, _⟩ | ⟨rfl, hJx3⟩)
      · gi_wp2
        go_roundw
        case rel => exact ⟨k + 1, by omega, by simp, by rw [take_snoc_row HR.out]; exact hJ3⟩
        case measure => simp [intOf]; omega
      · gi_wp2
        refine bodyPost_ret (results_none rfl _ _ _) rfl ?_
        exact ⟨⟨_, rfl⟩, .inr ⟨_, ⟨k, (take_snoc_row HR.out).symm, hlt⟩, hJx3⟩⟩
    · obtain rfl : k = 58 := by omega
      gi_wp2
      go_end0
      exact ⟨⟨_, rfl⟩, .inl ⟨_, rfl, by have h := hJs; rwa [List.take_of_length_le (by rw [sig_rows_len]; omega)] at h⟩⟩

end Go.Proofs.YtdogcnadopepmaaDoor.M
end

/- == of two [2]int; the closure of sig.at; sig.find at it; sig.at; sig.Of. -/
section
namespace Go.Proofs.YtdogcnadopepmaaDoor.M
open Go.RowKit Go.Shelf
attribute [local go_sem] Oper.semAt_some wide_fn wide_depth round_fn round_depth

theorem arr2_eq (d : Nat) (w : World) (a0 a1 b0 b1 : Int) :
    (Op.equalIn (d + 2) 134 (.agg #[.int .i64 a0, .int .i64 a1]) (.agg #[.int .i64 b0, .int .i64 b1])).run Tryd.prog w = .ok (a0 == b0 && a1 == b1) w := by
  have u3 := Tryd.underlying3
  have hc : Tryd.prog.cellsOf 3 = 1 := by kernel_rfl
  have p0 : ∀ x y : Int, (part 3 #[.int .i64 x, .int .i64 y] 0).run Tryd.prog w = .ok (.int .i64 x) w := fun x y => by kernel_rfl
  have p1 : ∀ x y : Int, (part 3 #[.int .i64 x, .int .i64 y] 1).run Tryd.prog w = .ok (.int .i64 y) w := fun x y => by kernel_rfl
  have e : ∀ x y : Int, (Op.equalIn (d + 1) 3 (.int .i64 x) (.int .i64 y)).run Tryd.prog w = .ok (x == y) w := fun x y => by
    simp [Op.equalIn, run_underlying u3]
  cases hi : Tryd.prog.info? 3 with
  | none => simp [Program.cellsOf, hi] at hc
  | some i =>
    rw [show d + 2 = (d + 1) + 1 from rfl, run_equalIn_array w (d + 1) _ _ Tryd.underlying134 hi, hc]
    simp only [List.range_succ, List.range_zero, List.nil_append, List.cons_append, Op.eqItems, Sem.run_bind, Nat.zero_mul, Nat.one_mul, p0, e, Result.andThen_ok]
    cases h0 : (a0 == b0) <;> cases h1 : (a1 == b1) <;> simp [p1, e, h1]

set_option maxRecDepth 100000 in
set_option maxHeartbeats 2000000 in
theorem at1_any (r : SRow) (b1 b2 : Nat) (c i : Int) (w : World) (h1 : w.cell? ⟨b1, 0, none⟩ = some (.int .i64 c)) (h2 : w.cell? ⟨b2, 0, none⟩ = some (.int .i64 i)) :
    Calls Tryd.prog 117 #[.agg r.arr, .pointer (some ⟨b1, 0, none⟩), .pointer (some ⟨b2, 0, none⟩)] w fun e w' => e = .returned (.bool (r.c == c && r.i == i)) ∧ w' = w.alloc (.cells r.arr 136) := by
  have k1 := World.block_lt_of_cell? w _ h1
  have k2 := World.block_lt_of_cell? w _ h2
  have ha := fun w => arr2_eq 9998 w r.c r.i c i
  simp only [SRow.arr]
  go_enter Tryd.func117, Tryd.ntmps117
  go_wp2
  go_ret
  exact ⟨rfl, rfl⟩

/-! A block of cells, known whole. -/
def BlockIs (W : World) (B : Nat) (t : TypeId) (cs : Array Value) : Prop := W.heap[B]? = some (.cells cs t (0, 0))
theorem BlockIs.lt {W : World} {B : Nat} {t : TypeId} {cs : Array Value} (h : BlockIs W B t cs) : B < W.heap.size := (Array.getElem?_eq_some_iff.1 h).1
theorem BlockIs.new (W : World) (t : TypeId) (cs : Array Value) : BlockIs (W.alloc (.cells cs t)) W.heap.size t cs := World.alloc_heap_new W _
theorem BlockIs.kept {W W' : World} {row : Option Nat} {B : Nat} {t : TypeId} {cs : Array Value} (h : BlockIs W B t cs) (hg : W.grownBy W' row) (hne : some B ≠ row) : BlockIs W' B t cs := (hg.block B h.lt hne).trans h
theorem BlockIs.alloc {W : World} {B : Nat} {t : TypeId} {cs : Array Value} (h : BlockIs W B t cs) (o : Obj) : BlockIs (W.alloc o) B t cs := h.kept (World.grownBy_alloc W o none) (by simp)
theorem BlockIs.cell {W : World} {B : Nat} {t : TypeId} {cs : Array Value} (h : BlockIs W B t cs) (j : Nat) : W.cell? ⟨B, j, none⟩ = cs[j]? := by simp [World.cell?, show W.heap[B]? = _ from h]
theorem BlockIs.frozen {W : World} {B : Nat} {t : TypeId} {cs : Array Value} (h : BlockIs W B t cs) (j : Nat) : W.frozen? ⟨B, j, none⟩ = false := by simp [World.frozen?, show W.heap[B]? = _ from h]
theorem BlockIs.set {W : World} {B : Nat} {t : TypeId} {cs : Array Value} (h : BlockIs W B t cs) (j : Nat) (v : Value) : BlockIs (W.setCell ⟨B, j, none⟩ v) B t (cs.setIfInBounds j v) := by
  have h' : W.heap[B]? = some (.cells cs t (0, 0)) := h
  simp [BlockIs, World.setCell, Array.getElem?_modify, h']
theorem BlockIs.other {W : World} {B : Nat} {t : TypeId} {cs : Array Value} (h : BlockIs W B t cs) (a : Addr) (v : Value) (hne : a.block ≠ B) : BlockIs (W.setCell a v) B t cs := by
  have h' : W.heap[B]? = some (.cells cs t (0, 0)) := h
  simp [BlockIs, World.setCell, Array.getElem?_modify, h', hne]
theorem BlockIs.set6 {W : World} {B : Nat} {t : TypeId} {a0 a1 a2 a3 a4 a5 : Value} (h : BlockIs W B t #[a0, a1, a2, a3, a4, a5]) (v0 v1 v2 v3 v4 v5 : Value) :
    BlockIs ((((((W.setCell ⟨B, 0, none⟩ v0).setCell ⟨B, 1, none⟩ v1).setCell ⟨B, 2, none⟩ v2).setCell ⟨B, 3, none⟩ v3).setCell ⟨B, 4, none⟩ v4).setCell ⟨B, 5, none⟩ v5) B t #[v0, v1, v2, v3, v4, v5] := by
  have := (((((h.set 0 v0).set 1 v1).set 2 v2).set 3 v3).set 4 v4).set 5 v5
  simpa using this
theorem BlockIs.other6 {W : World} {B : Nat} {t : TypeId} {cs : Array Value} (h : BlockIs W B t cs) (b : Nat) (hne : b ≠ B) (v0 v1 v2 v3 v4 v5 : Value) :
    BlockIs ((((((W.setCell ⟨b, 0, none⟩ v0).setCell ⟨b, 1, none⟩ v1).setCell ⟨b, 2, none⟩ v2).setCell ⟨b, 3, none⟩ v3).setCell ⟨b, 4, none⟩ v4).setCell ⟨b, 5, none⟩ v5) B t cs :=
  (((((h.other ⟨b, 0, none⟩ v0 hne).other ⟨b, 1, none⟩ v1 hne).other ⟨b, 2, none⟩ v2 hne).other ⟨b, 3, none⟩ v3 hne).other ⟨b, 4, none⟩ v4 hne).other ⟨b, 5, none⟩ v5 hne
theorem below_set6 {n : Nat} {w W : World} (h : Below n w W) (B : Nat) (hB : n ≤ B) (v0 v1 v2 v3 v4 v5 : Value) :
    Below n w ((((((W.setCell ⟨B, 0, none⟩ v0).setCell ⟨B, 1, none⟩ v1).setCell ⟨B, 2, none⟩ v2).setCell ⟨B, 3, none⟩ v3).setCell ⟨B, 4, none⟩ v4).setCell ⟨B, 5, none⟩ v5) :=
  (((((h.setCell (p := ⟨B, 0, none⟩) hB v0).setCell (p := ⟨B, 1, none⟩) hB v1).setCell (p := ⟨B, 2, none⟩) hB v2).setCell (p := ⟨B, 3, none⟩) hB v3).setCell (p := ⟨B, 4, none⟩) hB v4).setCell (p := ⟨B, 5, none⟩) hB v5
theorem blockIs_own {β : Type} (B : Nat) (t : TypeId) (f : β → Array Value) : Own (fun s W => BlockIs W B t (f s)) := fun s X Y row hs hg hrow =>
  hs.kept hg (fun e' => by obtain ⟨o, ho, hc⟩ := hrow B e'.symm; rw [show X.heap[B]? = _ from hs] at ho; cases ho; cases hc)

/-- Is it the method? -/
def SRow.hit (c i : Int) (r : SRow) : Bool := r.c == c && r.i == i

/-- A function value's box, read whole. -/
theorem methods_any (w : World) : Calls Tryd.prog 141 #[] w fun e w' => e = .returned (.func (.func 158) #[] #[]) ∧ w' = w := by
  go_enter Tryd.func141, Tryd.ntmps141
  go_wp2
  go_ret
  exact ⟨rfl, rfl⟩

/-- What sig.find keeps between two rounds. -/
structure FindI (c i : Int) (b1 b2 : Nat) (w : World) (pre : List SRow) (W : World) : Prop where
  h1 : BlockIs W b1 3 #[.int .i64 c]
  h2 : BlockIs W b2 3 #[.int .i64 i]
  f0 : BlockIs W w.heap.size 182 #[.func (.func 117) #[] #[.pointer (some ⟨b1, 0, none⟩), .pointer (some ⟨b2, 0, none⟩)]]
  r0 : BlockIs W (w.heap.size + 1) 136 #[.int .i64 0, .int .i64 0, .string ⟨#[]⟩, .int .i64 0, .int .i64 0, .int .i64 0]
  k0 : BlockIs W (w.heap.size + 2) 4 #[.bool false]
  no : ∀ r ∈ pre, r.hit c i = false
  be : Below w.heap.size w W

theorem FindI.own (c i : Int) (b1 b2 : Nat) (w : World) (B : Nat) (hB : w.heap.size ≤ B) : OwnFrom B (FindI c i b1 b2 w) := fun s X Y row hs hg hr => by
  have hr' : ∀ r, row = some r → ∃ o : Obj, X.heap[r]? = some o ∧ o.isCells = false := fun r e => (hr r e).2
  exact ⟨blockIs_own b1 3 (fun _ : Unit => _) () X Y row hs.h1 hg hr', blockIs_own b2 3 (fun _ : Unit => _) () X Y row hs.h2 hg hr', blockIs_own _ 182 (fun _ : Unit => _) () X Y row hs.f0 hg hr',
    blockIs_own _ 136 (fun _ : Unit => _) () X Y row hs.r0 hg hr', blockIs_own _ 4 (fun _ : Unit => _) () X Y row hs.k0 hg hr', hs.no, ownFrom_below (Nat.le_refl _) hB () X Y row hs.be hg hr⟩

/-- What it has when a round has left. -/
structure FindX (c i : Int) (w : World) (cd : Code) (pre : List SRow) (W : World) : Prop where
  rt : cd = .ret
  ex : ∃ ini last, pre = ini ++ [last] ∧ (∀ r ∈ ini, r.hit c i = false) ∧ last.hit c i = true ∧ BlockIs W (w.heap.size + 1) 136 last.arr
  k1 : BlockIs W (w.heap.size + 2) 4 #[.bool true]
  be : Below w.heap.size w W

theorem FindX.own (c i : Int) (w : World) (cd : Code) (B : Nat) (hB : w.heap.size ≤ B) : OwnFrom B (FindX c i w cd) := fun s X Y row hs hg hr => by
  have hr' : ∀ r, row = some r → ∃ o : Obj, X.heap[r]? = some o ∧ o.isCells = false := fun r e => (hr r e).2
  obtain ⟨ini, last, e1, e2, e3, e4⟩ := hs.ex
  exact ⟨hs.rt, ⟨ini, last, e1, e2, e3, blockIs_own _ 136 (fun _ : Unit => _) () X Y row e4 hg hr'⟩, blockIs_own _ 4 (fun _ : Unit => _) () X Y row hs.k1 hg hr', ownFrom_below (Nat.le_refl _) hB () X Y row hs.be hg hr⟩

/-- What it answers. -/
def sigFind (c i : Int) : Option SRow := sigRows.find? (SRow.hit c i)
def zeroRow : SRow := ⟨0, 0, [], 0, 0, 0⟩

theorem BlockIs.putObj {W : World} {B : Nat} {t : TypeId} {cs : Array Value} (h : BlockIs W B t cs) (D : Nat) (o o' : Obj) (hD : W.heap[D]? = some o) (ho : o.isCells = false) : BlockIs (W.putObj D o') B t cs :=
  (blockIs_own B t (fun _ : Unit => cs)).putObj (s := ()) o' h hD ho

set_option maxRecDepth 100000 in
/-- The end of sig.find. -/
theorem find_end {n : Nat} {R : Ending → World → Prop} (W : World) (D s : Nat) (tmps : Array Value) (h2 : tmps.getD 2 undef = .pointer (some ⟨s + 1, 0, none⟩)) (h3 : tmps.getD 3 undef = .pointer (some ⟨s + 2, 0, none⟩))
    (hK : W.heap[D]? = some (.deferred (some []))) (r : SRow) (b : Bool) (hr : BlockIs W (s + 1) 136 r.arr) (hb : BlockIs W (s + 2) 4 #[.bool b])
    (hR : R (.returned (.tuple #[.agg r.arr, .bool b])) (W.putObj D (.deferred none))) :
    bodyPostM Fence.wide n Tryd.prog Tryd.f116 R .ret { tmps := tmps, defers := [{ target := .collected D, args := #[] }] } W := by
  refine ⟨by simp, .inl ⟨_, _, rfl, run_takeDeferred hK, ?_⟩⟩
  have hr' := hr.putObj D _ (.deferred none) hK rfl
  have hb' := hb.putObj D _ (.deferred none) hK rfl
  have z0 := hr'.cell 0
  have z1 := hr'.cell 1
  have z2 := hr'.cell 2
  have z3 := hr'.cell 3
  have z4 := hr'.cell 4
  have z5 := hr'.cell 5
  have z6 := hb'.cell 0
  simp only [SRow.arr, List.getElem?_toArray, List.getElem?_cons_zero, List.getElem?_cons_succ] at z0 z1 z2 z3 z4 z5 z6
  refine ⟨_, ?_, hR⟩
  have h2' : tmps[2]?.getD undef = .pointer (some ⟨s + 1, 0, none⟩) := by simpa using h2
  have h3' : tmps[3]?.getD undef = .pointer (some ⟨s + 2, 0, none⟩) := by simpa using h3
  simp [results, Tryd.f116, go_sem, h2', h3', z0, z1, z2, z3, z4, z5, z6, SRow.arr]

theorem keeps_alloc {A B : World} (h : KeepsOthers A B) (o : Obj) : KeepsOthers A (B.alloc o) := h.trans (KeepsOthers.alloc B o)
theorem keeps_set {A B : World} (h : KeepsOthers A B) (a : Addr) (v : Value) : KeepsOthers A (B.setCell a v) := h.trans (KeepsOthers.setCell B a v)

set_option maxRecDepth 100000 in
set_option maxHeartbeats 2000000 in
theorem find_in (n : Nat) (hn : 5 ≤ n) (c i : Int) (b1 b2 : Nat) (w : World) (h1 : BlockIs w b1 3 #[.int .i64 c]) (h2 : BlockIs w b2 3 #[.int .i64 i]) :
    CallsIn Fence.wide n Tryd.prog 116 #[.func (.func 117) #[] #[.pointer (some ⟨b1, 0, none⟩), .pointer (some ⟨b2, 0, none⟩)]] w fun e w' =>
      e = .returned (.tuple #[.agg ((sigFind c i).getD zeroRow).arr, .bool (sigFind c i).isSome]) ∧ Below w.heap.size w w' := by
  have hn1 : 1 ≤ n := by omega
  refine callsIn_of_wp_marks Tryd.func116 rfl trivial ?_ rfl
  simp only [Tryd.ntmps116, List.size_toArray, List.length_cons, List.length_nil, Nat.reduceAdd, Nat.reduceSub, Array.replicate_succ, Array.replicate_zero, List.push_toArray, List.append_toArray, List.nil_append, List.cons_append]
  have H1 := Lib.hid h1
  have H2 := Lib.hid h2
  clear h1 h2
  gi_wp2_with (gi_at_call 141; refine ((callsIn_wide (n := n - 1)).2 (methods_any _)).mono ?_; rintro e w' ⟨rfl, rfl⟩)
  obtain ⟨W0, hW0⟩ : ∃ W0, ((w.alloc (.cells #[.func (.func 117) #[] #[.pointer (some ⟨b1, 0, none⟩), .pointer (some ⟨b2, 0, none⟩)]] 182)).alloc (.cells #[.int .i64 0, .int .i64 0, .string ⟨#[]⟩, .int .i64 0, .int .i64 0, .int .i64 0] 136)).alloc (.cells #[.bool false] 4) = W0 := ⟨_, rfl⟩
  have hsz : W0.heap.size = w.heap.size + 3 := by rw [← hW0]; simp
  have hI0 : FindI c i b1 b2 w [] W0 := by
    rw [← hW0]
    refine ⟨((H1.out.alloc _).alloc _).alloc _, ((H2.out.alloc _).alloc _).alloc _, ((BlockIs.new w 182 _).alloc _).alloc _, ?_, ?_, by simp, (((Below.refl _ w).alloc (Nat.le_refl _) _).alloc (by simp) _).alloc (by simp; omega) _⟩
    · have := (BlockIs.new (w.alloc (.cells #[.func (.func 117) #[] #[.pointer (some ⟨b1, 0, none⟩), .pointer (some ⟨b2, 0, none⟩)]] 182)) 136 #[.int .i64 0, .int .i64 0, .string ⟨#[]⟩, .int .i64 0, .int .i64 0, .int .i64 0]).alloc (.cells #[.bool false] 4)
      simpa using this
    · have := BlockIs.new ((w.alloc (.cells #[.func (.func 117) #[] #[.pointer (some ⟨b1, 0, none⟩), .pointer (some ⟨b2, 0, none⟩)]] 182)).alloc (.cells #[.int .i64 0, .int .i64 0, .string ⟨#[]⟩, .int .i64 0, .int .i64 0, .int .i64 0] 136)) 4 #[.bool false]
      simpa using this
  rw [hW0]
  clear hW0
  refine wpIn_rangeFunc_ownH (F := Fence.wide) rfl hn1 (gf := 158) (lb := #[]) rfl trivial (enters_of Tryd.func158 (by kernel_rfl) rfl)
    (encs := fun r : SRow => #[.agg r.arr]) (Kp := fun _ _ => True) (S := fun xs => xs = sigRows) (Sp := fun pre => ∃ k, pre = sigRows.take (k + 1) ∧ k < 58) (N := 58) (w0 := W0)
    (fun l J Jx W _ hJ _ hY h0 => methods1_in (n - 1) l J Jx W hJ hY h0)
    (fun _ _ => trivial) (fun _ _ _ _ _ _ _ _ => trivial) (Below.refl _ _) (fun _ => rfl)
    (FindI c i b1 b2 w) (FindX c i w) (FindI.own c i b1 b2 w _ (by omega)) (fun cd => FindX.own c i w cd _ (by omega)) hI0
    (fun x a' W => ∃ Bx, w.heap.size + 3 ≤ Bx ∧ BlockIs W Bx 136 x.arr ∧ a' = { tmps := #[.func (.func 117) #[] #[.pointer (some ⟨b1, 0, none⟩), .pointer (some ⟨b2, 0, none⟩)], .pointer (some ⟨w.heap.size, 0, none⟩), .pointer (some ⟨w.heap.size + 1, 0, none⟩), .pointer (some ⟨w.heap.size + 2, 0, none⟩), .pointer (some ⟨Bx, 0, none⟩), .func (.func 158) #[] #[], .agg x.arr, undef, undef, undef, undef, undef], defers := [] })
    ?hAx ?assign ?body ?done ?stop
  case hAx =>
    intro x a' s X Y row hs hg hr
    obtain ⟨Bx, k1, k2, k3⟩ := hs
    exact ⟨Bx, k1, blockIs_own Bx 136 (fun _ : Unit => x.arr) () X Y row k2 hg (fun r e => (hr r e).2), k3⟩
  case assign =>
    intro l pre x W K hi hK
    simp only [SRow.arr]
    gi_wp2
    refine hK _ _ ((KeepsOthers.alloc _ _).from _) trivial ((FindI.own c i b1 b2 w W.heap.size hi.be.size).alloc _ hi) ⟨W.heap.size, by have := hi.k0.lt; omega, BlockIs.new _ _ _, rfl⟩
  case body =>
    rintro l pre x a' W hl - hi ⟨Bx, hBx, bX, rfl⟩ hlt
    have q1 := hi.h1.cell 0
    have q2 := hi.h2.cell 0
    have q3 := hi.f0.cell 0
    have q4 := hi.f0.lt
    have q5 := bX.lt
    have q6 := hi.k0.lt
    have q7 := hi.r0.lt
    have x0 := bX.cell 0
    have x1 := bX.cell 1
    have x2 := bX.cell 2
    have x3 := bX.cell 3
    have x4 := bX.cell 4
    have x5 := bX.cell 5
    simp only [SRow.arr, List.getElem?_toArray, List.getElem?_cons_zero, List.getElem?_cons_succ] at q1 q2 q3 x0 x1 x2 x3 x4 x5
    have z0 := hi.r0.cell 0
    have z1 := hi.r0.cell 1
    have z2 := hi.r0.cell 2
    have z3 := hi.r0.cell 3
    have z4 := hi.r0.cell 4
    have z5 := hi.r0.cell 5
    have z6 := hi.k0.cell 0
    simp only [List.getElem?_toArray, List.getElem?_cons_zero, List.getElem?_cons_succ] at z0 z1 z2 z3 z4 z5 z6
    have y0 := hi.r0.frozen 0
    have y1 := hi.r0.frozen 1
    have y2 := hi.r0.frozen 2
    have y3 := hi.r0.frozen 3
    have y4 := hi.r0.frozen 4
    have y5 := hi.r0.frozen 5
    have y6 := hi.k0.frozen 0
    have C1 := at1_any x b1 b2 c i W q1 q2
    simp only [SRow.arr] at C1 ⊢
    have HC := Lib.hid C1
    have HI := Lib.hid hi
    have HX := Lib.hid bX
    clear C1 hi bX
    cases hh : x.hit c i with
    | false =>
      have hh' : (x.c == c && x.i == i) = false := hh
      have HH := Lib.hid hh
      clear hh
      gi_wp2_with (gi_at_call 117; refine (CallsIn.inRound l ((callsIn_wide (n := n - 1 - 1 - 1)).2 HC.out)).mono ?_; rintro e w' ⟨rfl, rfl⟩)
      refine ⟨(KeepsOthers.alloc _ _).from _, trivial, ?_⟩
      have hi := (FindI.own c i b1 b2 w w.heap.size (Nat.le_refl _)).alloc (.cells #[.int .i64 x.c, .int .i64 x.i, .string ⟨x.s.toArray⟩, .int .i64 x.side, .int .i64 x.r0, .int .i64 x.r1] 136) HI.out
      exact ⟨hi.h1, hi.h2, hi.f0, hi.r0, hi.k0, fun r hr => (List.mem_append.1 hr).elim (hi.no r) (fun e => by simp at e; subst e; exact HH.out), hi.be⟩
    | true =>
      have hh' : (x.c == c && x.i == i) = true := hh
      have HH := Lib.hid hh
      clear hh
      gi_wp2_with (gi_at_call 117; refine (CallsIn.inRound l ((callsIn_wide (n := n - 1 - 1 - 1)).2 HC.out)).mono ?_; rintro e w' ⟨rfl, rfl⟩)
      have hi := HI.out
      refine ⟨KeepsOthers.from (keeps_alloc (keeps_set (keeps_set (keeps_set (keeps_set (keeps_set (keeps_set (keeps_set (KeepsOthers.refl W) _ _) _ _) _ _) _ _) _ _) _ _) _ _) _) _, rfl, ⟨pre, x, rfl, hi.no, HH.out, ?_⟩, ?_, ?_⟩
      · exact ((hi.r0.set6 _ _ _ _ _ _).other ⟨w.heap.size + 2, 0, none⟩ _ (fun e => by simp at e)).alloc _
      · exact ((hi.k0.other6 (w.heap.size + 1) (by omega) _ _ _ _ _ _).set 0 _).alloc _
      · exact ((below_set6 hi.be (w.heap.size + 1) (by omega) _ _ _ _ _ _).setCell (p := ⟨w.heap.size + 2, 0, none⟩) (by simp) _).alloc (by simp; omega) _
  case done =>
    rintro D xs W hD rfl hi hK
    have z0 := hi.r0.cell 0
    have z1 := hi.r0.cell 1
    have z2 := hi.r0.cell 2
    have z3 := hi.r0.cell 3
    have z4 := hi.r0.cell 4
    have z5 := hi.r0.cell 5
    have z6 := hi.k0.cell 0
    simp only [List.getElem?_toArray, List.getElem?_cons_zero, List.getElem?_cons_succ] at z0 z1 z2 z3 z4 z5 z6
    have y0 := hi.r0.frozen 0
    have y1 := hi.r0.frozen 1
    have y2 := hi.r0.frozen 2
    have y3 := hi.r0.frozen 3
    have y4 := hi.r0.frozen 4
    have y5 := hi.r0.frozen 5
    have y6 := hi.k0.frozen 0
    have HI := Lib.hid hi
    have HK := Lib.hid hK
    clear hi hK
    gi_wp2
    have hi := HI.out
    have hK' : ((((((((W.setCell ⟨w.heap.size + 1, 0, none⟩ (.int .i64 0)).setCell ⟨w.heap.size + 1, 1, none⟩ (.int .i64 0)).setCell ⟨w.heap.size + 1, 2, none⟩ (.string ⟨#[]⟩)).setCell ⟨w.heap.size + 1, 3, none⟩ (.int .i64 0)).setCell ⟨w.heap.size + 1, 4, none⟩ (.int .i64 0)).setCell ⟨w.heap.size + 1, 5, none⟩ (.int .i64 0)).setCell ⟨w.heap.size + 2, 0, none⟩ (.bool false))).heap[D]? = some (.deferred (some [])) :=
      (keeps_set (keeps_set (keeps_set (keeps_set (keeps_set (keeps_set (keeps_set (KeepsOthers.refl W) _ _) _ _) _ _) _ _) _ _) _ _) _ _).same D _ HK.out rfl
    refine find_end _ D w.heap.size _ rfl rfl hK' zeroRow false ((hi.r0.set6 _ _ _ _ _ _).other ⟨w.heap.size + 2, 0, none⟩ _ (fun e => by simp at e)) ((hi.k0.other6 (w.heap.size + 1) (by omega) _ _ _ _ _ _).set 0 _) ?_
    have hno : sigFind c i = none := List.find?_eq_none.2 (fun r hr => by simp [hi.no r hr])
    rw [hno]
    exact ⟨rfl, ((below_set6 hi.be (w.heap.size + 1) (by omega) _ _ _ _ _ _).setCell (p := ⟨w.heap.size + 2, 0, none⟩) (by simp) _).trans (belowK_b (w := w) (Nat.le_refl _) _ D _ _ (by omega) hK' rfl rfl)⟩
  case stop =>
    rintro D cd pre W hD ⟨k, rfl, hk⟩ hx hK
    obtain ⟨rfl, ⟨ini, last, e1, e2, e3, e4⟩, k1, be⟩ := hx
    have HK := Lib.hid hK
    clear hK
    gi_wp2
    refine find_end _ D w.heap.size _ rfl rfl HK.out last true e4 k1 ?_
    have hf : sigFind c i = some last := by
      have h : sigRows = ini ++ last :: sigRows.drop (k + 1) := by
        conv => lhs; rw [← List.take_append_drop (k + 1) sigRows, e1]
        simp
      unfold sigFind
      rw [h, List.find?_append, List.find?_eq_none.2 (fun r hr => by simp [e2 r hr])]
      simp [e3]
    rw [hf]
    exact ⟨rfl, be.trans (belowK_b (w := w) (Nat.le_refl _) _ D _ _ (by omega) HK.out rfl rfl)⟩


theorem find_any (c i : Int) (b1 b2 : Nat) (w : World) (h1 : BlockIs w b1 3 #[.int .i64 c]) (h2 : BlockIs w b2 3 #[.int .i64 i]) :
    Calls Tryd.prog 116 #[.func (.func 117) #[] #[.pointer (some ⟨b1, 0, none⟩), .pointer (some ⟨b2, 0, none⟩)]] w fun e w' =>
      e = .returned (.tuple #[.agg ((sigFind c i).getD zeroRow).arr, .bool (sigFind c i).isSome]) ∧ Below w.heap.size w w' :=
  callsIn_wide.1 (find_in 5 (Nat.le_refl _) c i b1 b2 w h1 h2)

theorem below_up {B : Nat} {w w1 w2 : World} (h : Below B w w1) (hB : B ≤ w1.heap.size) (k : Below w1.heap.size w1 w2) : Below B w w2 :=
  h.trans ⟨k.os, k.tape, k.output, k.size, fun i hi => k.block i (Nat.lt_of_lt_of_le hi hB)⟩

theorem BlockIs.below {W W' : World} {n B : Nat} {t : TypeId} {cs : Array Value} (h : BlockIs W B t cs) (hb : Below n W W') (hn : B < n) : BlockIs W' B t cs := (hb.block B hn).trans h
theorem BlockIs.six {W : World} {B : Nat} {t : TypeId} {a0 a1 a2 a3 a4 a5 : Value} (h : BlockIs W B t #[a0, a1, a2, a3, a4, a5]) :
    (W.cell? ⟨B, 0, none⟩ = some a0 ∧ W.cell? ⟨B, 1, none⟩ = some a1 ∧ W.cell? ⟨B, 2, none⟩ = some a2 ∧ W.cell? ⟨B, 3, none⟩ = some a3 ∧ W.cell? ⟨B, 4, none⟩ = some a4 ∧ W.cell? ⟨B, 5, none⟩ = some a5) ∧
    (W.frozen? ⟨B, 0, none⟩ = false ∧ W.frozen? ⟨B, 1, none⟩ = false ∧ W.frozen? ⟨B, 2, none⟩ = false ∧ W.frozen? ⟨B, 3, none⟩ = false ∧ W.frozen? ⟨B, 4, none⟩ = false ∧ W.frozen? ⟨B, 5, none⟩ = false) :=
  ⟨⟨h.cell 0, h.cell 1, h.cell 2, h.cell 3, h.cell 4, h.cell 5⟩, ⟨h.frozen 0, h.frozen 1, h.frozen 2, h.frozen 3, h.frozen 4, h.frozen 5⟩⟩

set_option maxRecDepth 100000 in
set_option maxHeartbeats 2000000 in
theorem at_any (c i : Int) (w : World) : Calls Tryd.prog 79 #[.int .i64 c, .int .i64 i] w fun e w' =>
      e = .returned (.tuple #[.agg ((sigFind c i).getD zeroRow).arr, .bool (sigFind c i).isSome]) ∧ Below w.heap.size w w' := by
  obtain ⟨W1, hW1⟩ : ∃ W1, ((w.alloc (.cells #[.int .i64 c] 3)).alloc (.cells #[.int .i64 i] 3)).alloc (.cells #[.int .i64 0, .int .i64 0, .string ⟨#[]⟩, .int .i64 0, .int .i64 0, .int .i64 0] 136) = W1 := ⟨_, rfl⟩
  have hB : Below w.heap.size w W1 := by rw [← hW1]; exact ((((Below.refl w.heap.size w).alloc (Nat.le_refl _) (.cells #[.int .i64 c] 3)).alloc (by simp) (.cells #[.int .i64 i] 3)).alloc (by simp; omega) _)
  have hs : W1.heap.size = w.heap.size + 3 := by rw [← hW1]; simp
  have b0 : BlockIs W1 w.heap.size 3 #[.int .i64 c] := by rw [← hW1]; exact (((BlockIs.new w 3 _).alloc _).alloc _)
  have b1 : BlockIs W1 (w.heap.size + 1) 3 #[.int .i64 i] := by
    rw [← hW1]; have := (BlockIs.new (w.alloc (.cells #[.int .i64 c] 3)) 3 #[.int .i64 i]).alloc (.cells #[.int .i64 0, .int .i64 0, .string ⟨#[]⟩, .int .i64 0, .int .i64 0, .int .i64 0] 136); simpa using this
  have b2 : BlockIs W1 (w.heap.size + 1 + 1) 136 #[.int .i64 0, .int .i64 0, .string ⟨#[]⟩, .int .i64 0, .int .i64 0, .int .i64 0] := by
    rw [← hW1]; have := BlockIs.new ((w.alloc (.cells #[.int .i64 c] 3)).alloc (.cells #[.int .i64 i] 3)) 136 #[.int .i64 0, .int .i64 0, .string ⟨#[]⟩, .int .i64 0, .int .i64 0, .int .i64 0]; simpa using this
  have C := find_any c i w.heap.size (w.heap.size + 1) W1 b0 b1
  generalize ((sigFind c i).getD zeroRow) = r at *
  generalize (sigFind c i).isSome = b at *
  simp only [SRow.arr] at C ⊢
  rw [← hW1] at C
  have HC := Lib.hid C
  have HW1 := Lib.hid hW1
  have HB := Lib.hid hB
  have HS := Lib.hid hs
  clear C hB hs hW1 b0 b1
  have HB2 := Lib.hid b2
  clear b2
  go_enter Tryd.func79, Tryd.ntmps79
  go_wp2_with (go_at_call 116; refine HC.out.mono ?_; rintro e w' ⟨rfl, hb'⟩; rw [HW1.out] at hb'; have HW := Lib.hid hb'; have b3 := HB2.out.below hb' (by rw [HS.out]; omega); have HB3 := Lib.hid b3; clear hb'; obtain ⟨⟨z0, z1, z2, z3, z4, z5⟩, ⟨y0, y1, y2, y3, y4, y5⟩⟩ := b3.six; clear b3)
  have hB3 := HB3.out.set6 (.int .i64 r.c) (.int .i64 r.i) (.string ⟨r.s.toArray⟩) (.int .i64 r.side) (.int .i64 r.r0) (.int .i64 r.r1)
  obtain ⟨⟨z0, z1, z2, z3, z4, z5⟩, -⟩ := hB3.six
  have hu136 := Tryd.underlying136
  refine bodyPost_ret (v := .tuple #[.agg #[.int .i64 r.c, .int .i64 r.i, .string ⟨r.s.toArray⟩, .int .i64 r.side, .int .i64 r.r0, .int .i64 r.r1], .bool b]) (by simp [results, Tryd.f79, go_sem, z0, z1, z2, z3, z4, z5]) rfl ⟨rfl, ?_⟩
  exact below_set6 (below_up HB.out (by rw [HS.out]; omega) HW.out) _ (by omega) _ _ _ _ _ _

/-- What sig.Of answers. -/
def sig_Of.f (c i : Int) : Option (ByteArray × Bool) := some (⟨((sigFind c i).getD zeroRow).s.toArray⟩, (sigFind c i).isSome)

set_option maxRecDepth 100000 in
set_option maxHeartbeats 2000000 in
theorem sig_Of.calls (a0 a1 : Int) (r1 : ByteArray) (r2 : Bool) (w : World) (h : sig_Of.f a0 a1 = some (r1, r2)) : Calls Tryd.prog 39 #[.int .i64 a0, .int .i64 a1] w fun e w' =>
      e = .returned (.tuple #[.string r1, .bool r2]) ∧ Below w.heap.size w w' := by
  have C := at_any a0 a1 w
  simp only [sig_Of.f, Option.some.injEq, Prod.mk.injEq] at h
  obtain ⟨rfl, rfl⟩ := h
  generalize ((sigFind a0 a1).getD zeroRow) = r at *
  generalize (sigFind a0 a1).isSome = b at *
  simp only [SRow.arr] at C ⊢
  have HC := Lib.hid C
  clear C
  go_enter Tryd.func39, Tryd.ntmps39
  go_wp2_with (go_at_call 79; refine HC.out.mono ?_; rintro e w' ⟨rfl, hb'⟩; have HW := Lib.hid hb'; clear hb')
  go_ret2
  exact ⟨rfl, HW.out.alloc HW.out.size _⟩

end Go.Proofs.YtdogcnadopepmaaDoor.M
end
