/- Plain: it is greeted once. -/
import Derived.Test.YtdogcnadopepmaaDoorQ8
namespace Go.Proofs.YtdogcnadopepmaaDoor.L
open Go.RowKit Go.Proofs.YtdogcnadopepmaaDoor.H Go.Proofs.YtdogcnadopepmaaDoor.M

theorem ServeGreets_true (st ch fr be : Int) (us wo ho : ByteArray) (W : World) (hWd : Wd W) :
    Calls Tryd.prog 8 #[.agg #[.int .i64 st, .int .i64 ch, .int .i64 fr, .int .i64 be, .string us, .string wo, .string ho]] W fun e w' => e = .returned (.bool true) ∧ Below W.heap.size W w' := by
  by_cases h : st = 0
  · subst h
    exact ServeGreets_yes ch fr be us wo ho W hWd
  · exact ServeGreets_no st ch fr be us wo ho W hWd h
end Go.Proofs.YtdogcnadopepmaaDoor.L
