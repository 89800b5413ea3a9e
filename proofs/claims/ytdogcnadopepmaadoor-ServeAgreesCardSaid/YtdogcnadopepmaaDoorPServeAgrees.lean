/- Plain: what is agreed on. -/
import Derived.Test.YtdogcnadopepmaaDoorG7
import Derived.Test.YtdogcnadopepmaaDoorQ5
namespace Go.Proofs.YtdogcnadopepmaaDoor.L
open Go.RowKit Go.Proofs.YtdogcnadopepmaaDoorW.PrintWords Go.Proofs.YtdogcnadopepmaaDoorW.PrintLast Go.Proofs.YtdogcnadopepmaaDoorW.PrintMore Go.Proofs.YtdogcnadopepmaaDoor.H Go.Proofs.YtdogcnadopepmaaDoor.M Go.Proofs.YtdogcnadopepmaaDoor.R
set_option linter.unusedSimpArgs false
set_option linter.unusedVariables false

theorem width_zero (x : Int) : Ev (fun k => method_width_right.j0 k false x ⟨#[]⟩) 0 :=
  Ev.step (f := fun _ => some 0) (fun k => by simp only [method_width_right.j0]; rw [if_neg (by decide), if_pos (by rw [ByteArray.toList_eq])]) (Ev.now _)
theorem right_s (x : Int) (h0 : 0 ≤ x) (h1 : x ≤ 65535) : Ev (fun k => valRight.f k 115 ⟨x, ⟨#[]⟩⟩) 0 := by
  have hs : shr .u64 x (wrap64 (8 * 2)) = 0 := by
    have hw : wrap64 (8 * 2) = 16 := by unfold wrap64; omega
    unfold shr
    rw [hw]
    exact Int.ediv_eq_zero_of_lt h0 (by simp [IntKind.bits]; omega)
  have hb : ((shr .u64 x (wrap64 (8 * 2))) != 0) = false := by rw [hs]; rfl
  have hv : ∀ k, valRight.f k 115 ⟨x, ⟨#[]⟩⟩ = method_width_right.f k 2 x ⟨#[]⟩ := fun k => rfl
  refine Ev.congr hv ?_
  unfold method_width_right.f
  rw [hb]
  simp only [if_neg (show ¬ (2 : Int) = 0 by decide), if_pos (show (2 : Int) > 0 by decide), if_pos (show (2 : Int) < 8 by decide), if_pos (show 0 ≤ wrap64 (8 * 2) by unfold wrap64; omega)]
  exact width_zero x
theorem right_l4 (x : Int) (h0 : 0 ≤ x) (h1 : x ≤ 4294967295) : Ev (fun k => valRight.f k 108 ⟨x, ⟨#[]⟩⟩) 0 := by
  have hs : shr .u64 x (wrap64 (8 * 4)) = 0 := by
    have hw : wrap64 (8 * 4) = 32 := by unfold wrap64; omega
    unfold shr
    rw [hw]
    exact Int.ediv_eq_zero_of_lt h0 (by simp [IntKind.bits]; omega)
  have hb : ((shr .u64 x (wrap64 (8 * 4))) != 0) = false := by rw [hs]; rfl
  have hv : ∀ k, valRight.f k 108 ⟨x, ⟨#[]⟩⟩ = method_width_right.f k 4 x ⟨#[]⟩ := fun k => rfl
  refine Ev.congr hv ?_
  unfold method_width_right.f
  rw [hb]
  simp only [if_neg (show ¬ (4 : Int) = 0 by decide), if_pos (show (4 : Int) > 0 by decide), if_pos (show (4 : Int) < 8 by decide), if_pos (show 0 ≤ wrap64 (8 * 4) by unfold wrap64; omega)]
  exact width_zero x

theorem sls : sigFind 10 31 = some ⟨10, 31, [115, 108, 115], 1, 0, 0⟩ := by kernel_rfl
theorem num_small (x : Int) (h0 : 0 ≤ x) (h1 : x ≤ 4294967295) : num56 x = ⟨x, ⟨#[]⟩⟩ := by
  unfold num56
  rw [IntKind.wrap_u64, Int.emod_eq_of_lt h0 (by omega)]
theorem right_31 (c f b : Int) (hc0 : 0 ≤ c) (hc1 : c ≤ 65535) (hf0 : 0 ≤ f) (hf1 : f ≤ 4294967295) (hb0 : 0 ≤ b) (hb1 : b ≤ 65535) :
    Ev (fun k => method_Right.f k 10 31 [num56 c, num56 f, num56 b]) 0 := by
  rw [num_small c hc0 (by omega), num_small f hf0 (by omega), num_small b hb0 (by omega)]
  have h : ∀ k, method_Right.f k 10 31 [⟨c, ⟨#[]⟩⟩, ⟨f, ⟨#[]⟩⟩, ⟨b, ⟨#[]⟩⟩] = (valRight.f k 115 ⟨c, ⟨#[]⟩⟩).bind fun e => if e = 0 then ((valRight.f k 108 ⟨f, ⟨#[]⟩⟩).bind fun e => if e = 0 then ((valRight.f k 115 ⟨b, ⟨#[]⟩⟩).bind fun e => if e = 0 then some 0 else some e) else some e) else some e := by
    intro k
    unfold method_Right.f sig_Of.f
    rw [sls]
    rfl
  refine Ev.congr h ?_
  refine Ev.bind (right_s c hc0 hc1) ?_
  simp only [if_true]
  refine Ev.bind (right_l4 f hf0 hf1) ?_
  simp only [if_true]
  refine Ev.bind (right_s b hb0 hb1) ?_
  simp only [if_true]
  exact Ev.now _

theorem int_small (x : Int) (h0 : 0 ≤ x) (h1 : x ≤ 4294967295) : wrap64 (num56 x).f0 = x := by
  rw [num_small x h0 h1]
  unfold wrap64
  simp only
  omega

theorem inR_iff {n lo hi : Int} : inR n lo hi = true ↔ lo ≤ n ∧ n ≤ hi := by simp [inR]
theorem right_iff {a b c : Int} : serve_Right.f a b c = some true ↔ (1 ≤ a ∧ a ≤ 65535) ∧ (4096 ≤ b ∧ b ≤ 131072) ∧ (0 ≤ c ∧ c ≤ 65535) := by
  unfold serve_Right.f
  simp only [Option.some.injEq, Bool.and_eq_true, inR_iff, and_assoc]

theorem ServeAgrees_true (h : Hd) (c f b : Int) (W : World) (hWd : Wd W) :
    Calls Tryd.prog 5 #[.agg #[.int .i64 h.st, .int .i64 h.ch, .int .i64 h.fr, .int .i64 h.be, .string h.us, .string h.wo, .string h.ho, .int .i64 c, .int .i64 f, .int .i64 b]] W fun e w' => e = .returned (.bool true) ∧ Below W.heap.size W w' := by
  by_cases hg : h.st ≠ 2 ∨ serve_Right.f h.ch h.fr h.be ≠ some true ∨ c < 0 ∨ 65535 < c ∨ f < 0 ∨ 2147483648 < f ∨ b < 0 ∨ 65535 < b
  · exact ServeAgrees_bad h.st h.ch h.fr h.be h.us h.wo h.ho c f b W hWd hg
  · have hst : h.st = 2 := by
      by_cases q : h.st = 2
      · exact q
      · exact absurd (.inl q) hg
    have hr : serve_Right.f h.ch h.fr h.be = some true := by
      by_cases q : serve_Right.f h.ch h.fr h.be = some true
      · exact q
      · exact absurd (.inr (.inl q)) hg
    obtain ⟨r1, r2, r3⟩ := right_iff.1 hr
    have hn : 0 ≤ c ∧ c ≤ 65535 ∧ 0 ≤ f ∧ f ≤ 2147483648 ∧ 0 ≤ b ∧ b ≤ 65535 := by
      refine ⟨?_, ?_, ?_, ?_, ?_, ?_⟩ <;> (apply Int.not_lt.1; intro q; apply hg; simp only [q, true_or, or_true])
    obtain ⟨hc0, hc1, hf0, hf1, hb0, hb1⟩ := hn
    have hv : ∀ v ∈ ([num56 c, num56 f, num56 b] : List S56), Ok56 v := by
      intro v hv
      have hw : ∀ x, Ok56 (num56 x) := fun x => ⟨wf_wrap .u64 x, by simp [num56, ByteArray.size]⟩
      simp only [List.mem_cons, List.mem_nil_iff, or_false] at hv
      rcases hv with rfl | rfl | rfl <;> exact hw _
    obtain ⟨e, hE, hT⟩ := serve_take h ⟨10, 31, [num56 c, num56 f, num56 b]⟩ hv
    obtain rfl : e = 0 := by
      obtain ⟨K, hK⟩ := hE
      obtain ⟨K2, hK2⟩ := right_31 c f b hc0 hc1 hf0 (by omega) hb0 hb1
      have q1 := hK (max K K2) (by omega)
      have q2 := hK2 (max K K2) (by omega)
      simp only at q1 q2
      rw [q1] at q2
      injection q2
    obtain ⟨k, hk⟩ := hT.rounds
    have i0 : intAt [num56 c, num56 f, num56 b] 0 = c := int_small c hc0 (by omega)
    have i1 : intAt [num56 c, num56 f, num56 b] 1 = f := int_small f hf0 (by omega)
    have i2 : intAt [num56 c, num56 f, num56 b] 2 = b := int_small b hb0 (by omega)
    have hm : isM ⟨10, 31, [num56 c, num56 f, num56 b]⟩ 31 = true := rfl
    have hR : takeR 0 h ⟨10, 31, [num56 c, num56 f, num56 b]⟩ = if c > h.ch ∨ f > h.fr ∨ (f ≠ 0 ∧ f < 4096) then ⟨14, h, []⟩ else ⟨0, { h with st := 3, ch := if c = 0 then h.ch else c, fr := if f = 0 then h.fr else f, be := min b h.be }, []⟩ := by
      have hd : doStep h ⟨10, 31, [num56 c, num56 f, num56 b]⟩ = if c > h.ch ∨ f > h.fr ∨ (f ≠ 0 ∧ f < 4096) then ⟨14, h, []⟩ else ⟨0, { h with st := 3, ch := if c = 0 then h.ch else c, fr := if f = 0 then h.fr else f, be := min b h.be }, []⟩ := by
        unfold doStep
        rw [if_neg (by omega), if_neg (by omega), if_pos hst]
        unfold doTune
        rw [if_pos hm]
        simp only [i0, i1, i2]
      unfold takeR
      rw [if_pos rfl, if_neg (by omega), hd]
      split
      · rw [if_neg (by simp)]
      · rw [if_pos (by rfl)]
    refine ServeAgrees_main k h.st h.ch h.fr h.be h.us h.wo h.ho c f b _ _ _ _ _ _ _ _ _ W hWd hst hr hc0 hc1 hf0 hf1 hb0 hb1 hk ?_ ?_
    · intro he
      rw [hR] at he ⊢
      by_cases q : c > h.ch ∨ f > h.fr ∨ (f ≠ 0 ∧ f < 4096)
      · rw [if_pos q]
        exact ⟨rfl, by omega⟩
      · rw [if_neg q] at he
        exact absurd rfl he
    · intro he
      rw [hR] at he ⊢
      by_cases q : c > h.ch ∨ f > h.fr ∨ (f ≠ 0 ∧ f < 4096)
      · rw [if_pos q] at he
        exact absurd he (by simp)
      · rw [if_neg q]
        simp only
        rw [right_iff]
        refine ⟨⟨?_, ?_, ?_⟩, ?_, ?_, ?_, ?_, ?_, ?_, ?_⟩
        all_goals (repeat' split) <;> omega
end Go.Proofs.YtdogcnadopepmaaDoor.L
