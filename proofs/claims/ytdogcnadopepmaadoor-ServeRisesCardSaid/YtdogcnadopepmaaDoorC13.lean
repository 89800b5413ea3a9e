/- interchangelaw10.shown answers true. -/
import Derived.Test.YtdogcnadopepmaaDoorQ24
namespace Go.Proofs.YtdogcnadopepmaaDoor.M
open Go.RowKit Go.Proofs.YtdogcnadopepmaaDoorW.PrintWords Go.Proofs.YtdogcnadopepmaaDoorW.PrintLast Go.Proofs.YtdogcnadopepmaaDoorW.PrintMore Go.Proofs.YtdogcnadopepmaaDoor.H

theorem shown10p_true : shown10p.f 40 = some true := by decide +kernel

def interchangelaw10_shown.f : Option Bool := some true
theorem interchangelaw10_shown.calls (r : Bool) (w : World) (h : interchangelaw10_shown.f = some r) (hWd : Wd w := by first | (with_reducible assumption) | exact hWd.drewN _ | exact Wd.up hWd (by repeat (first | (with_reducible first | exact HB.out | apply below_alloc | apply pw_below_drewN | apply below_drew1) | exact HB.out))) :
    Calls Tryd.prog 24 #[] w fun e w' => e = .returned (.bool r) ∧ Below w.heap.size w w' := by
  obtain rfl := Option.some.inj h
  exact shown10p.calls 40 true w shown10p_true rfl hWd
end Go.Proofs.YtdogcnadopepmaaDoor.M
