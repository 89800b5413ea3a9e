/- Plain: who it is, and where to, is told once. -/
import Derived.Test.YtdogcnadopepmaaDoorG7
import Derived.Test.YtdogcnadopepmaaDoorQ7
namespace Go.Proofs.YtdogcnadopepmaaDoor.L
open Go.RowKit Go.Proofs.YtdogcnadopepmaaDoorW.PrintWords Go.Proofs.YtdogcnadopepmaaDoorW.PrintLast Go.Proofs.YtdogcnadopepmaaDoorW.PrintMore Go.Proofs.YtdogcnadopepmaaDoor.H Go.Proofs.YtdogcnadopepmaaDoor.M Go.Proofs.YtdogcnadopepmaaDoor.R
set_option linter.unusedSimpArgs false
set_option linter.unusedVariables false

def Names (h : Hd) (r : Res) : Prop := ((r.h.us = h.us ∧ r.h.wo = h.wo) ∨ h.st = 1) ∧ (r.h.ho = h.ho ∨ h.st = 3) ∧ ((r.h.ch = h.ch ∧ r.h.fr = h.fr ∧ r.h.be = h.be) ∨ h.st = 2)
theorem names_same (h : Hd) (r : Res) (hu : r.h.us = h.us) (hw : r.h.wo = h.wo) (hh : r.h.ho = h.ho) (hc : r.h.ch = h.ch) (hf : r.h.fr = h.fr) (hb : r.h.be = h.be) : Names h r := ⟨.inl ⟨hu, hw⟩, .inl hh, .inl ⟨hc, hf, hb⟩⟩
theorem names_ends (h : Hd) (m : S24) : Names h (doEnds h m) := by
  unfold doEnds
  split <;> exact names_same _ _ rfl rfl rfl rfl rfl rfl
theorem names_step (h : Hd) (m : S24) : Names h (doStep h m) := by
  unfold doStep
  split
  · exact names_same _ _ rfl rfl rfl rfl rfl rfl
  · split
    · unfold doStart
      split
      · split
        · split
          · exact ⟨.inr (by assumption), .inl rfl, .inl ⟨rfl, rfl, rfl⟩⟩
          · exact names_same _ _ rfl rfl rfl rfl rfl rfl
        · exact names_same _ _ rfl rfl rfl rfl rfl rfl
      · exact names_ends h m
    · split
      · unfold doTune
        split
        · split
          · exact names_same _ _ rfl rfl rfl rfl rfl rfl
          · exact ⟨.inl ⟨rfl, rfl⟩, .inl rfl, .inr (by assumption)⟩
        · exact names_ends h m
      · split
        · unfold doOpen
          split
          · exact ⟨.inl ⟨rfl, rfl⟩, .inr (by assumption), .inl ⟨rfl, rfl, rfl⟩⟩
          · exact names_ends h m
        · split
          · exact names_ends h m
          · split
            · unfold doClosing
              split
              · exact names_same _ _ rfl rfl rfl rfl rfl rfl
              · split <;> exact names_same _ _ rfl rfl rfl rfl rfl rfl
            · exact names_same _ _ rfl rfl rfl rfl rfl rfl
theorem names_take (e : Int) (h : Hd) (m : S24) : Names h (takeR e h m) := by
  unfold takeR
  split
  · split
    · exact names_same _ _ rfl rfl rfl rfl rfl rfl
    · split
      · exact names_step h m
      · exact names_same _ _ rfl rfl rfl rfl rfl rfl
  · exact names_same _ _ rfl rfl rfl rfl rfl rfl

theorem ServeNames_true (h : Hd) (m : S24) (A : Option Addr) (cap : Nat) (W : World) (hv : ∀ v ∈ m.f2, Ok56 v) (hC : Kd.C k56 W A m.f2.length m.f2) (hc : m.f2.length ≤ cap) (hWd : Wd W) :
    Calls Tryd.prog 7 #[.agg #[.int .i64 h.st, .int .i64 h.ch, .int .i64 h.fr, .int .i64 h.be, .string h.us, .string h.wo, .string h.ho], .agg #[.int .i64 m.f0, .int .i64 m.f1, .slice A m.f2.length cap]] W fun e w' => e = .returned (.bool true) ∧ Below W.heap.size W w' := by
  obtain ⟨e, _, hT⟩ := serve_take h m hv
  obtain ⟨k, hk⟩ := hT.rounds
  obtain ⟨n1, n2, n3⟩ := names_take e h m
  exact ServeNames_walk k h.st h.ch h.fr h.be h.us h.wo h.ho m.f0 m.f1 A cap m.f2 _ _ _ _ _ _ _ _ _ W hC hc hWd hk (fun _ => n1) (fun _ => n2) (fun _ => n3)
end Go.Proofs.YtdogcnadopepmaaDoor.L
