/- Plain: where a connection is never goes back. -/
import Derived.Test.YtdogcnadopepmaaDoorL3
import Derived.Test.YtdogcnadopepmaaDoorQ4
namespace Go.Proofs.YtdogcnadopepmaaDoor.L
open Go.RowKit Go.Proofs.YtdogcnadopepmaaDoorW.PrintWords Go.Proofs.YtdogcnadopepmaaDoorW.PrintLast Go.Proofs.YtdogcnadopepmaaDoorW.PrintMore Go.Proofs.YtdogcnadopepmaaDoor.H Go.Proofs.YtdogcnadopepmaaDoor.M Go.Proofs.YtdogcnadopepmaaDoor.R
set_option linter.unusedSimpArgs false
set_option linter.unusedVariables false

theorem begin_iff {a b c : Int} : serve_Right.f a b c = some true ↔ (1 ≤ a ∧ a ≤ 65535) ∧ (4096 ≤ b ∧ b ≤ 131072) ∧ (0 ≤ c ∧ c ≤ 65535) := by
  unfold serve_Right.f
  simp only [Option.some.injEq, Bool.and_eq_true, inR, decide_eq_true_eq, and_assoc]
theorem ref_right {h : Hd} (hi : Inv h) : interchangeref10_Right.f h.ch h.fr h.be = some true := by
  obtain ⟨c1, c2⟩ := hi.c
  obtain ⟨f1, f2⟩ := hi.f
  obtain ⟨b1, b2⟩ := hi.b
  unfold interchangeref10_Right.f
  rw [if_pos c1, if_pos c2, if_pos f1, if_pos f2, if_pos b1, decide_eq_true b2]

theorem ServeRises_true (a b c : Int) (A : Option Addr) (cap : Nat) (l : List S24) (W : World) (hWd : Wd W) (hC : Kd.C k24 W A l.length l) (hc : l.length ≤ cap) (hv : ∀ m ∈ l, Ok24 m) :
    Calls Tryd.prog 4 #[.agg #[.int .i64 a, .int .i64 b, .int .i64 c], .slice A l.length cap] W fun e w' => e = .returned (.bool true) ∧ Below W.heap.size W w' := by
  by_cases hr : serve_Right.f a b c = some true
  · by_cases h60 : l.length ≤ 60
    · obtain ⟨r1, r2, r3⟩ := begin_iff.1 hr
      refine ServeRises_loop a b c A cap l W hWd hC hc hr h60 Inv ⟨by show (1 : Int) ≤ 1; decide, by show (1 : Int) ≤ 6; decide, r1, r2, r3⟩ (fun h hi => ref_right hi) ?_
      intro h m hm hi
      obtain ⟨r, hR, hT⟩ := rises_take h m hi (hv m hm).2.2
      obtain ⟨K1, h1⟩ := hT
      obtain ⟨K2, h2⟩ := hR.said
      exact ⟨max K1 K2, r, h1 _ (by omega), hR.inv, hR.up, hR.bad, h2 _ (by omega)⟩
    · exact ServeRises_bad a b c A l.length cap W hWd (.inr (by omega))
  · exact ServeRises_bad a b c A l.length cap W hWd (.inl hr)
end Go.Proofs.YtdogcnadopepmaaDoor.L
