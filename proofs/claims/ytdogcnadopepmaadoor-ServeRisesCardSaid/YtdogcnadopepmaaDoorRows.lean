/-
  NARROWER THAN 'FOR EVERY INPUT', by the rows' own cells (each row's printed sentence says how): MethodTakes: laid · ServeRises: laid · ServeAgrees: laid · ServeWrong: laid · ServeNames: laid · ServeGreets: laid · ContentFew: laid · ContentKinds: laid · ServeShuts: laid · DialWrong: laid · DialRises: laid · DialTalks: laid.
  DERIVED. THE GIVEN ROWS OF THIS SEAT. 12 by the template 'for every input the law returns true; each argument reads behind the call as it read before'; 0 by the template 'total and deterministic' (their statements: YtdogcnadopepmaaDoorTotals.lean).
  GIVEN WITH THE SEED: the statements are not yours to turn. If you find one false, say at which input.
  Laid BY PROGRAM, IN A SANDBOX (cutbox-rows.mjs): the forced cells as the released guide's own fill.sh prints them over the translation c4902cad64d8a70c… (all of the seat's roots in one cut). By AI agents, Wed Nov 11 2026. No macro, syntax, notation, axiom, sorry.
-/
import Derived.Test.YtdogcnadopepmaaDoorChecked
import GoSem.PinnedTables
import GoSem.Claim
import GoSem.ClaimJoined
import GoSem.ClaimMapViews
import Derived.JoinedTies
import Derived.KernelRfl
namespace Go.Proofs.YtdogcnadopepmaaDoor
/- THE CELL 'sum', in the pinned program and in every row, IS THE sha256 OF THE DUMP (.gsa) THAT YtdogcnadopepmaaDoorProg.lean LOADS. Nothing in Lean hashes anything: it is a label: what it is worth is what the hold of that sum in a sandbox is worth. -/
noncomputable def Tryd.pinned : Pinned := { name := "ytdogcnadopepmaadoor", sum := "c4902cad64d8a70cf27c5df6fbe99a877327453ac82fa0e1cb027b0d52ee1fb1", checked := Tryd.checked }
namespace Rows
def none {H : Type} : Left H := { results := [], args := [] }

/- WHAT THE LISTED PACKAGE-LEVEL VARIABLES READ AS WHEN THE CALL BEGINS. Each datum BY PROGRAM (the guide's laid-datum.mjs) off the statement by which the dump's own 'gosem.cut.vars' lays the variable. In a bare row this is a premise. The card (YtdogcnadopepmaaDoorCards.lean) ties it to the program's text. -/
def laid_interchange_num_widths {H : Type} : DataW H := .agg [.lit (.int .i64 1), .lit (.int .i64 2), .lit (.int .i64 4), .lit (.int .i64 8)]
def laid_interchange_code_entries {H : Type} : DataW H := .agg [.agg [.lit (.int .i64 6), .lit (.int .i64 501), .lit (.string [70, 82, 65, 77, 69, 95, 69, 82, 82, 79, 82]), .lit (.bool true)], .agg [.lit (.int .i64 7), .lit (.int .i64 502), .lit (.string [83, 89, 78, 84, 65, 88, 95, 69, 82, 82, 79, 82]), .lit (.bool true)], .agg [.lit (.int .i64 8), .lit (.int .i64 503), .lit (.string [67, 79, 77, 77, 65, 78, 68, 95, 73, 78, 86, 65, 76, 73, 68]), .lit (.bool true)], .agg [.lit (.int .i64 9), .lit (.int .i64 504), .lit (.string [67, 72, 65, 78, 78, 69, 76, 95, 69, 82, 82, 79, 82]), .lit (.bool true)], .agg [.lit (.int .i64 10), .lit (.int .i64 505), .lit (.string [85, 78, 69, 88, 80, 69, 67, 84, 69, 68, 95, 70, 82, 65, 77, 69]), .lit (.bool true)], .agg [.lit (.int .i64 12), .lit (.int .i64 506), .lit (.string [82, 69, 83, 79, 85, 82, 67, 69, 95, 69, 82, 82, 79, 82]), .lit (.bool true)], .agg [.lit (.int .i64 14), .lit (.int .i64 530), .lit (.string [78, 79, 84, 95, 65, 76, 76, 79, 87, 69, 68]), .lit (.bool true)], .agg [.lit (.int .i64 16), .lit (.int .i64 320), .lit (.string [67, 79, 78, 78, 69, 67, 84, 73, 79, 78, 95, 70, 79, 82, 67, 69, 68]), .lit (.bool true)], .agg [.lit (.int .i64 4), .lit (.int .i64 311), .lit (.string [67, 79, 78, 84, 69, 78, 84, 95, 84, 79, 79, 95, 76, 65, 82, 71, 69]), .lit (.bool false)], .agg [.lit (.int .i64 11), .lit (.int .i64 404), .lit (.string [78, 79, 84, 95, 70, 79, 85, 78, 68]), .lit (.bool false)], .agg [.lit (.int .i64 13), .lit (.int .i64 406), .lit (.string [80, 82, 69, 67, 79, 78, 68, 73, 84, 73, 79, 78, 95, 70, 65, 73, 76, 69, 68]), .lit (.bool false)], .agg [.lit (.int .i64 0), .lit (.int .i64 200), .lit (.string [82, 69, 80, 76, 89, 95, 83, 85, 67, 67, 69, 83, 83]), .lit (.bool true)]]
def laid_unicode_utf8_acceptRanges {H : Type} : DataW H := .agg [.agg [.lit (.int .u8 128), .lit (.int .u8 191)], .agg [.lit (.int .u8 160), .lit (.int .u8 191)], .agg [.lit (.int .u8 128), .lit (.int .u8 159)], .agg [.lit (.int .u8 144), .lit (.int .u8 191)], .agg [.lit (.int .u8 128), .lit (.int .u8 143)], .agg [.lit (.int .u8 0), .lit (.int .u8 0)], .agg [.lit (.int .u8 0), .lit (.int .u8 0)], .agg [.lit (.int .u8 0), .lit (.int .u8 0)], .agg [.lit (.int .u8 0), .lit (.int .u8 0)], .agg [.lit (.int .u8 0), .lit (.int .u8 0)], .agg [.lit (.int .u8 0), .lit (.int .u8 0)], .agg [.lit (.int .u8 0), .lit (.int .u8 0)], .agg [.lit (.int .u8 0), .lit (.int .u8 0)], .agg [.lit (.int .u8 0), .lit (.int .u8 0)], .agg [.lit (.int .u8 0), .lit (.int .u8 0)], .agg [.lit (.int .u8 0), .lit (.int .u8 0)]]
/-- One of Go's own tables, pinned by name: the form's constant. -/
def laid_unicode_utf8_first : DataW Unit := Go.Pinned.utf8First

/-- 'interchangelaw06.MethodTakes': WHATEVER THE INPUT: true; the input reads as it did. -/
def methodTakesSpec : ChangeSpec := { name := "methodTakes", fn := fun _ => fun
  | [d1, d2, d3] => { results := [.lit (.bool true)], args := [d1, d2, d3] }
  | _ => none }
def methodTakesRow : OpenClaim := { program := "ytdogcnadopepmaadoor", sum := "c4902cad64d8a70cf27c5df6fbe99a877327453ac82fa0e1cb027b0d52ee1fb1", func := "interchange/interchangelaw06.MethodTakes", spec := "methodTakes", unfollowed := true, recurses := true, named := ["interchange/num.widths"], apart := false, laid := [("interchange/num.widths", laid_interchange_num_widths)] }
def MethodTakesSaid : Prop := methodTakesRow.holds Tryd.pinned (OpenSpec.ofChange methodTakesSpec)

/-- ITS FALSE NEIGHBOUR: 'it returns false'. Refute it at one input. -/
def methodTakesWrong : ChangeSpec := { name := "methodTakes", fn := fun _ => fun
  | [d1, d2, d3] => { results := [.lit (.bool false)], args := [d1, d2, d3] }
  | _ => none }
def MethodTakesWrongFalsely : Prop := methodTakesRow.holds Tryd.pinned (OpenSpec.ofChange methodTakesWrong)

/-- 'interchangelaw10.ServeRises': WHATEVER THE INPUT: true; the input reads as it did. -/
def serveRisesSpec : ChangeSpec := { name := "serveRises", fn := fun _ => fun
  | [d1, d2] => { results := [.lit (.bool true)], args := [d1, d2] }
  | _ => none }
def serveRisesRow : OpenClaim := { program := "ytdogcnadopepmaadoor", sum := "c4902cad64d8a70cf27c5df6fbe99a877327453ac82fa0e1cb027b0d52ee1fb1", func := "interchange/interchangelaw10.ServeRises", spec := "serveRises", inPlace := ["internal/bytealg.IndexByteString", "internal/bytealg.IndexString"], unfollowed := true, recurses := true, named := ["internal/bytealg.MaxLen", "interchange/num.widths"], apart := false, laid := [("interchange/num.widths", laid_interchange_num_widths)] }
def ServeRisesSaid : Prop := serveRisesRow.holds Tryd.pinned (OpenSpec.ofChange serveRisesSpec)

/-- ITS FALSE NEIGHBOUR: 'it returns false'. Refute it at one input. -/
def serveRisesWrong : ChangeSpec := { name := "serveRises", fn := fun _ => fun
  | [d1, d2] => { results := [.lit (.bool false)], args := [d1, d2] }
  | _ => none }
def ServeRisesWrongFalsely : Prop := serveRisesRow.holds Tryd.pinned (OpenSpec.ofChange serveRisesWrong)

/-- 'interchangelaw10.ServeAgrees': WHATEVER THE INPUT: true; the input reads as it did. -/
def serveAgreesSpec : ChangeSpec := { name := "serveAgrees", fn := fun _ => fun
  | [d] => { results := [.lit (.bool true)], args := [d] }
  | _ => none }
def serveAgreesRow : OpenClaim := { program := "ytdogcnadopepmaadoor", sum := "c4902cad64d8a70cf27c5df6fbe99a877327453ac82fa0e1cb027b0d52ee1fb1", func := "interchange/interchangelaw10.ServeAgrees", spec := "serveAgrees", inPlace := ["internal/bytealg.IndexByteString", "internal/bytealg.IndexString"], unfollowed := true, recurses := true, named := ["internal/bytealg.MaxLen", "interchange/num.widths"], apart := false, laid := [("interchange/num.widths", laid_interchange_num_widths)] }
def ServeAgreesSaid : Prop := serveAgreesRow.holds Tryd.pinned (OpenSpec.ofChange serveAgreesSpec)

/-- ITS FALSE NEIGHBOUR: 'it returns false'. Refute it at one input. -/
def serveAgreesWrong : ChangeSpec := { name := "serveAgrees", fn := fun _ => fun
  | [d] => { results := [.lit (.bool false)], args := [d] }
  | _ => none }
def ServeAgreesWrongFalsely : Prop := serveAgreesRow.holds Tryd.pinned (OpenSpec.ofChange serveAgreesWrong)

/-- 'interchangelaw10.ServeWrong': WHATEVER THE INPUT: true; the input reads as it did. -/
def serveWrongSpec : ChangeSpec := { name := "serveWrong", fn := fun _ => fun
  | [d1, d2] => { results := [.lit (.bool true)], args := [d1, d2] }
  | _ => none }
def serveWrongRow : OpenClaim := { program := "ytdogcnadopepmaadoor", sum := "c4902cad64d8a70cf27c5df6fbe99a877327453ac82fa0e1cb027b0d52ee1fb1", func := "interchange/interchangelaw10.ServeWrong", spec := "serveWrong", inPlace := ["internal/bytealg.IndexByteString", "internal/bytealg.IndexString"], unfollowed := true, recurses := true, named := ["internal/bytealg.MaxLen", "interchange/num.widths"], apart := false, laid := [("interchange/num.widths", laid_interchange_num_widths)] }
def ServeWrongSaid : Prop := serveWrongRow.holds Tryd.pinned (OpenSpec.ofChange serveWrongSpec)

/-- ITS FALSE NEIGHBOUR: 'it returns false'. Refute it at one input. -/
def serveWrongWrong : ChangeSpec := { name := "serveWrong", fn := fun _ => fun
  | [d1, d2] => { results := [.lit (.bool false)], args := [d1, d2] }
  | _ => none }
def ServeWrongWrongFalsely : Prop := serveWrongRow.holds Tryd.pinned (OpenSpec.ofChange serveWrongWrong)

/-- 'interchangelaw10.ServeNames': WHATEVER THE INPUT: true; the input reads as it did. -/
def serveNamesSpec : ChangeSpec := { name := "serveNames", fn := fun _ => fun
  | [d1, d2] => { results := [.lit (.bool true)], args := [d1, d2] }
  | _ => none }
def serveNamesRow : OpenClaim := { program := "ytdogcnadopepmaadoor", sum := "c4902cad64d8a70cf27c5df6fbe99a877327453ac82fa0e1cb027b0d52ee1fb1", func := "interchange/interchangelaw10.ServeNames", spec := "serveNames", inPlace := ["internal/bytealg.IndexByteString", "internal/bytealg.IndexString"], unfollowed := true, recurses := true, named := ["internal/bytealg.MaxLen", "interchange/num.widths"], apart := false, laid := [("interchange/num.widths", laid_interchange_num_widths)] }
def ServeNamesSaid : Prop := serveNamesRow.holds Tryd.pinned (OpenSpec.ofChange serveNamesSpec)

/-- ITS FALSE NEIGHBOUR: 'it returns false'. Refute it at one input. -/
def serveNamesWrong : ChangeSpec := { name := "serveNames", fn := fun _ => fun
  | [d1, d2] => { results := [.lit (.bool false)], args := [d1, d2] }
  | _ => none }
def ServeNamesWrongFalsely : Prop := serveNamesRow.holds Tryd.pinned (OpenSpec.ofChange serveNamesWrong)

/-- 'interchangelaw10.ServeGreets': WHATEVER THE INPUT: true; the input reads as it did. -/
def serveGreetsSpec : ChangeSpec := { name := "serveGreets", fn := fun _ => fun
  | [d] => { results := [.lit (.bool true)], args := [d] }
  | _ => none }
def serveGreetsRow : OpenClaim := { program := "ytdogcnadopepmaadoor", sum := "c4902cad64d8a70cf27c5df6fbe99a877327453ac82fa0e1cb027b0d52ee1fb1", func := "interchange/interchangelaw10.ServeGreets", spec := "serveGreets", inPlace := ["internal/bytealg.IndexByteString", "internal/bytealg.IndexString"], unfollowed := true, recurses := true, named := ["internal/bytealg.MaxLen", "interchange/num.widths"], apart := false, laid := [("interchange/num.widths", laid_interchange_num_widths)] }
def ServeGreetsSaid : Prop := serveGreetsRow.holds Tryd.pinned (OpenSpec.ofChange serveGreetsSpec)

/-- ITS FALSE NEIGHBOUR: 'it returns false'. Refute it at one input. -/
def serveGreetsWrong : ChangeSpec := { name := "serveGreets", fn := fun _ => fun
  | [d] => { results := [.lit (.bool false)], args := [d] }
  | _ => none }
def ServeGreetsWrongFalsely : Prop := serveGreetsRow.holds Tryd.pinned (OpenSpec.ofChange serveGreetsWrong)

/-- 'interchangelaw08.ContentFew': WHATEVER THE INPUT: true; the input reads as it did. -/
def contentFewSpec : ChangeSpec := { name := "contentFew", fn := fun _ => fun
  | [d1, d2, d3] => { results := [.lit (.bool true)], args := [d1, d2, d3] }
  | _ => none }
def contentFewRow : OpenClaim := { program := "ytdogcnadopepmaadoor", sum := "c4902cad64d8a70cf27c5df6fbe99a877327453ac82fa0e1cb027b0d52ee1fb1", func := "interchange/interchangelaw08.ContentFew", spec := "contentFew", unfollowed := true, recurses := true, named := ["interchange/num.widths"], apart := false, laid := [("interchange/num.widths", laid_interchange_num_widths)] }
def ContentFewSaid : Prop := contentFewRow.holds Tryd.pinned (OpenSpec.ofChange contentFewSpec)

/-- ITS FALSE NEIGHBOUR: 'it returns false'. Refute it at one input. -/
def contentFewWrong : ChangeSpec := { name := "contentFew", fn := fun _ => fun
  | [d1, d2, d3] => { results := [.lit (.bool false)], args := [d1, d2, d3] }
  | _ => none }
def ContentFewWrongFalsely : Prop := contentFewRow.holds Tryd.pinned (OpenSpec.ofChange contentFewWrong)

/-- 'interchangelaw08.ContentKinds': WHATEVER THE INPUT: true; the input reads as it did. -/
def contentKindsSpec : ChangeSpec := { name := "contentKinds", fn := fun _ => fun
  | [d1, d2, d3] => { results := [.lit (.bool true)], args := [d1, d2, d3] }
  | _ => none }
def contentKindsRow : OpenClaim := { program := "ytdogcnadopepmaadoor", sum := "c4902cad64d8a70cf27c5df6fbe99a877327453ac82fa0e1cb027b0d52ee1fb1", func := "interchange/interchangelaw08.ContentKinds", spec := "contentKinds", unfollowed := true, recurses := true, named := ["interchange/num.widths"], apart := false, laid := [("interchange/num.widths", laid_interchange_num_widths)] }
def ContentKindsSaid : Prop := contentKindsRow.holds Tryd.pinned (OpenSpec.ofChange contentKindsSpec)

/-- ITS FALSE NEIGHBOUR: 'it returns false'. Refute it at one input. -/
def contentKindsWrong : ChangeSpec := { name := "contentKinds", fn := fun _ => fun
  | [d1, d2, d3] => { results := [.lit (.bool false)], args := [d1, d2, d3] }
  | _ => none }
def ContentKindsWrongFalsely : Prop := contentKindsRow.holds Tryd.pinned (OpenSpec.ofChange contentKindsWrong)

/-- 'interchangelaw10.ServeShuts': WHATEVER THE INPUT: true; the input reads as it did. -/
def serveShutsSpec : ChangeSpec := { name := "serveShuts", fn := fun _ => fun
  | [d] => { results := [.lit (.bool true)], args := [d] }
  | _ => none }
def serveShutsRow : OpenClaim := { program := "ytdogcnadopepmaadoor", sum := "c4902cad64d8a70cf27c5df6fbe99a877327453ac82fa0e1cb027b0d52ee1fb1", func := "interchange/interchangelaw10.ServeShuts", spec := "serveShuts", inPlace := ["internal/bytealg.IndexByteString", "internal/bytealg.IndexString"], unfollowed := true, recurses := true, named := ["internal/bytealg.MaxLen", "interchange/num.widths", "interchange/code.entries"], apart := false, laid := [("interchange/num.widths", laid_interchange_num_widths), ("interchange/code.entries", laid_interchange_code_entries)] }
def ServeShutsSaid : Prop := serveShutsRow.holds Tryd.pinned (OpenSpec.ofChange serveShutsSpec)

/-- ITS FALSE NEIGHBOUR: 'it returns false'. Refute it at one input. -/
def serveShutsWrong : ChangeSpec := { name := "serveShuts", fn := fun _ => fun
  | [d] => { results := [.lit (.bool false)], args := [d] }
  | _ => none }
def ServeShutsWrongFalsely : Prop := serveShutsRow.holds Tryd.pinned (OpenSpec.ofChange serveShutsWrong)

/-- 'interchangelaw11.DialWrong': WHATEVER THE INPUT: true; the input reads as it did. -/
def dialWrongSpec : ChangeSpec := { name := "dialWrong", fn := fun _ => fun
  | [d1, d2] => { results := [.lit (.bool true)], args := [d1, d2] }
  | _ => none }
def dialWrongRow : OpenClaim := { program := "ytdogcnadopepmaadoor", sum := "c4902cad64d8a70cf27c5df6fbe99a877327453ac82fa0e1cb027b0d52ee1fb1", func := "interchange/interchangelaw11.DialWrong", spec := "dialWrong", inPlace := ["internal/bytealg.IndexByteString", "internal/bytealg.IndexString"], unfollowed := true, recurses := true, named := ["unicode/utf8.first", "unicode/utf8.acceptRanges", "internal/bytealg.MaxLen", "interchange/num.widths"], apart := false, laid := [("unicode/utf8.acceptRanges", laid_unicode_utf8_acceptRanges), ("interchange/num.widths", laid_interchange_num_widths), ("unicode/utf8.first", laid_unicode_utf8_first)] }
def DialWrongSaid : Prop := dialWrongRow.holds Tryd.pinned (OpenSpec.ofChange dialWrongSpec)

/-- ITS FALSE NEIGHBOUR: 'it returns false'. Refute it at one input. -/
def dialWrongWrong : ChangeSpec := { name := "dialWrong", fn := fun _ => fun
  | [d1, d2] => { results := [.lit (.bool false)], args := [d1, d2] }
  | _ => none }
def DialWrongWrongFalsely : Prop := dialWrongRow.holds Tryd.pinned (OpenSpec.ofChange dialWrongWrong)

/-- 'interchangelaw11.DialRises': WHATEVER THE INPUT: true; the input reads as it did. -/
def dialRisesSpec : ChangeSpec := { name := "dialRises", fn := fun _ => fun
  | [d1, d2, d3] => { results := [.lit (.bool true)], args := [d1, d2, d3] }
  | _ => none }
def dialRisesRow : OpenClaim := { program := "ytdogcnadopepmaadoor", sum := "c4902cad64d8a70cf27c5df6fbe99a877327453ac82fa0e1cb027b0d52ee1fb1", func := "interchange/interchangelaw11.DialRises", spec := "dialRises", inPlace := ["internal/bytealg.IndexByteString", "internal/bytealg.IndexString"], unfollowed := true, recurses := true, named := ["unicode/utf8.first", "unicode/utf8.acceptRanges", "internal/bytealg.MaxLen", "interchange/num.widths"], apart := false, laid := [("unicode/utf8.acceptRanges", laid_unicode_utf8_acceptRanges), ("interchange/num.widths", laid_interchange_num_widths), ("unicode/utf8.first", laid_unicode_utf8_first)] }
def DialRisesSaid : Prop := dialRisesRow.holds Tryd.pinned (OpenSpec.ofChange dialRisesSpec)

/-- ITS FALSE NEIGHBOUR: 'it returns false'. Refute it at one input. -/
def dialRisesWrong : ChangeSpec := { name := "dialRises", fn := fun _ => fun
  | [d1, d2, d3] => { results := [.lit (.bool false)], args := [d1, d2, d3] }
  | _ => none }
def DialRisesWrongFalsely : Prop := dialRisesRow.holds Tryd.pinned (OpenSpec.ofChange dialRisesWrong)

/-- 'interchangelaw11.DialTalks': WHATEVER THE INPUT: true; the input reads as it did. -/
def dialTalksSpec : ChangeSpec := { name := "dialTalks", fn := fun _ => fun
  | [d] => { results := [.lit (.bool true)], args := [d] }
  | _ => none }
def dialTalksRow : OpenClaim := { program := "ytdogcnadopepmaadoor", sum := "c4902cad64d8a70cf27c5df6fbe99a877327453ac82fa0e1cb027b0d52ee1fb1", func := "interchange/interchangelaw11.DialTalks", spec := "dialTalks", inPlace := ["internal/bytealg.IndexByteString", "internal/bytealg.IndexString"], unfollowed := true, recurses := true, named := ["unicode/utf8.first", "unicode/utf8.acceptRanges", "internal/bytealg.MaxLen", "interchange/num.widths"], apart := false, laid := [("unicode/utf8.acceptRanges", laid_unicode_utf8_acceptRanges), ("interchange/num.widths", laid_interchange_num_widths), ("unicode/utf8.first", laid_unicode_utf8_first)] }
def DialTalksSaid : Prop := dialTalksRow.holds Tryd.pinned (OpenSpec.ofChange dialTalksSpec)

/-- ITS FALSE NEIGHBOUR: 'it returns false'. Refute it at one input. -/
def dialTalksWrong : ChangeSpec := { name := "dialTalks", fn := fun _ => fun
  | [d] => { results := [.lit (.bool false)], args := [d] }
  | _ => none }
def DialTalksWrongFalsely : Prop := dialTalksRow.holds Tryd.pinned (OpenSpec.ofChange dialTalksWrong)

/- THE SECOND FORM. 'bulk': how many values and letters a reading holds, each counted each time it is reached (what is shared counts as often as it is met; a slice's spare places count too). A statement '..UptoSaid' is the law's where the arguments, and the package variables that the reading takes, are together of bulk at most 1048576: NARROWER than '..Said'. Prove '..Said' where nothing that the law and all that it calls make is longer than what came in: it says more and counts as full. Else prove '..UptoSaid'. A law counts once. -/
mutual
def uptoBulk {H : Type} : DataW H → Nat
  | .lit (.string bytes) => bytes.length + 1
  | .lit _ => 1
  | .nil => 1
  | .ptr d => uptoBulk d + 1
  | .slice elems spare => uptoBulkAll elems + uptoBulkAll spare + 1
  | .agg parts => uptoBulkAll parts + 1
  | .iface _ d => uptoBulk d + 1
  | .map entries => uptoBulkEntries entries + 1
  | .held _ => 1
def uptoBulkAll {H : Type} : List (DataW H) → Nat
  | [] => 0
  | d :: r => uptoBulk d + uptoBulkAll r
def uptoBulkEntries {H : Type} : List (Lit × DataW H) → Nat
  | [] => 0
  | x :: r => uptoBulkEntry x + uptoBulkEntries r
def uptoBulkEntry {H : Type} : Lit × DataW H → Nat
  | (.string bytes, d) => bytes.length + uptoBulk d + 1
  | (_, d) => uptoBulk d + 1
 end
def uptoSmall : (H : Type) → List (DataW H) → Bool := fun _ ds => decide (uptoBulkAll ds ≤ 1048576)
def OpenSpec.upto (s : _root_.Go.ChangeSpec) : _root_.Go.OpenSpec := { _root_.Go.OpenSpec.ofChange s with cond := some uptoSmall }

/-- 'interchangelaw06.MethodTakes', WHERE WHAT IT READS IS OF BULK AT MOST 1048576: true; the input reads as it did. -/
def methodTakesUptoRow : OpenClaim := { program := "ytdogcnadopepmaadoor", sum := "c4902cad64d8a70cf27c5df6fbe99a877327453ac82fa0e1cb027b0d52ee1fb1", func := "interchange/interchangelaw06.MethodTakes", spec := "methodTakes", unfollowed := true, recurses := true, named := ["interchange/num.widths"], apart := false, laid := [("interchange/num.widths", laid_interchange_num_widths)], narrowed := true }
def MethodTakesUptoSaid : Prop := methodTakesUptoRow.holds Tryd.pinned (OpenSpec.upto methodTakesSpec)

/-- 'interchangelaw10.ServeRises', WHERE WHAT IT READS IS OF BULK AT MOST 1048576: true; the input reads as it did. -/
def serveRisesUptoRow : OpenClaim := { program := "ytdogcnadopepmaadoor", sum := "c4902cad64d8a70cf27c5df6fbe99a877327453ac82fa0e1cb027b0d52ee1fb1", func := "interchange/interchangelaw10.ServeRises", spec := "serveRises", inPlace := ["internal/bytealg.IndexByteString", "internal/bytealg.IndexString"], unfollowed := true, recurses := true, named := ["internal/bytealg.MaxLen", "interchange/num.widths"], apart := false, laid := [("interchange/num.widths", laid_interchange_num_widths)], narrowed := true }
def ServeRisesUptoSaid : Prop := serveRisesUptoRow.holds Tryd.pinned (OpenSpec.upto serveRisesSpec)

/-- 'interchangelaw10.ServeAgrees', WHERE WHAT IT READS IS OF BULK AT MOST 1048576: true; the input reads as it did. -/
def serveAgreesUptoRow : OpenClaim := { program := "ytdogcnadopepmaadoor", sum := "c4902cad64d8a70cf27c5df6fbe99a877327453ac82fa0e1cb027b0d52ee1fb1", func := "interchange/interchangelaw10.ServeAgrees", spec := "serveAgrees", inPlace := ["internal/bytealg.IndexByteString", "internal/bytealg.IndexString"], unfollowed := true, recurses := true, named := ["internal/bytealg.MaxLen", "interchange/num.widths"], apart := false, laid := [("interchange/num.widths", laid_interchange_num_widths)], narrowed := true }
def ServeAgreesUptoSaid : Prop := serveAgreesUptoRow.holds Tryd.pinned (OpenSpec.upto serveAgreesSpec)

/-- 'interchangelaw10.ServeWrong', WHERE WHAT IT READS IS OF BULK AT MOST 1048576: true; the input reads as it did. -/
def serveWrongUptoRow : OpenClaim := { program := "ytdogcnadopepmaadoor", sum := "c4902cad64d8a70cf27c5df6fbe99a877327453ac82fa0e1cb027b0d52ee1fb1", func := "interchange/interchangelaw10.ServeWrong", spec := "serveWrong", inPlace := ["internal/bytealg.IndexByteString", "internal/bytealg.IndexString"], unfollowed := true, recurses := true, named := ["internal/bytealg.MaxLen", "interchange/num.widths"], apart := false, laid := [("interchange/num.widths", laid_interchange_num_widths)], narrowed := true }
def ServeWrongUptoSaid : Prop := serveWrongUptoRow.holds Tryd.pinned (OpenSpec.upto serveWrongSpec)

/-- 'interchangelaw10.ServeNames', WHERE WHAT IT READS IS OF BULK AT MOST 1048576: true; the input reads as it did. -/
def serveNamesUptoRow : OpenClaim := { program := "ytdogcnadopepmaadoor", sum := "c4902cad64d8a70cf27c5df6fbe99a877327453ac82fa0e1cb027b0d52ee1fb1", func := "interchange/interchangelaw10.ServeNames", spec := "serveNames", inPlace := ["internal/bytealg.IndexByteString", "internal/bytealg.IndexString"], unfollowed := true, recurses := true, named := ["internal/bytealg.MaxLen", "interchange/num.widths"], apart := false, laid := [("interchange/num.widths", laid_interchange_num_widths)], narrowed := true }
def ServeNamesUptoSaid : Prop := serveNamesUptoRow.holds Tryd.pinned (OpenSpec.upto serveNamesSpec)

/-- 'interchangelaw10.ServeGreets', WHERE WHAT IT READS IS OF BULK AT MOST 1048576: true; the input reads as it did. -/
def serveGreetsUptoRow : OpenClaim := { program := "ytdogcnadopepmaadoor", sum := "c4902cad64d8a70cf27c5df6fbe99a877327453ac82fa0e1cb027b0d52ee1fb1", func := "interchange/interchangelaw10.ServeGreets", spec := "serveGreets", inPlace := ["internal/bytealg.IndexByteString", "internal/bytealg.IndexString"], unfollowed := true, recurses := true, named := ["internal/bytealg.MaxLen", "interchange/num.widths"], apart := false, laid := [("interchange/num.widths", laid_interchange_num_widths)], narrowed := true }
def ServeGreetsUptoSaid : Prop := serveGreetsUptoRow.holds Tryd.pinned (OpenSpec.upto serveGreetsSpec)

/-- 'interchangelaw08.ContentFew', WHERE WHAT IT READS IS OF BULK AT MOST 1048576: true; the input reads as it did. -/
def contentFewUptoRow : OpenClaim := { program := "ytdogcnadopepmaadoor", sum := "c4902cad64d8a70cf27c5df6fbe99a877327453ac82fa0e1cb027b0d52ee1fb1", func := "interchange/interchangelaw08.ContentFew", spec := "contentFew", unfollowed := true, recurses := true, named := ["interchange/num.widths"], apart := false, laid := [("interchange/num.widths", laid_interchange_num_widths)], narrowed := true }
def ContentFewUptoSaid : Prop := contentFewUptoRow.holds Tryd.pinned (OpenSpec.upto contentFewSpec)

/-- 'interchangelaw08.ContentKinds', WHERE WHAT IT READS IS OF BULK AT MOST 1048576: true; the input reads as it did. -/
def contentKindsUptoRow : OpenClaim := { program := "ytdogcnadopepmaadoor", sum := "c4902cad64d8a70cf27c5df6fbe99a877327453ac82fa0e1cb027b0d52ee1fb1", func := "interchange/interchangelaw08.ContentKinds", spec := "contentKinds", unfollowed := true, recurses := true, named := ["interchange/num.widths"], apart := false, laid := [("interchange/num.widths", laid_interchange_num_widths)], narrowed := true }
def ContentKindsUptoSaid : Prop := contentKindsUptoRow.holds Tryd.pinned (OpenSpec.upto contentKindsSpec)

/-- 'interchangelaw10.ServeShuts', WHERE WHAT IT READS IS OF BULK AT MOST 1048576: true; the input reads as it did. -/
def serveShutsUptoRow : OpenClaim := { program := "ytdogcnadopepmaadoor", sum := "c4902cad64d8a70cf27c5df6fbe99a877327453ac82fa0e1cb027b0d52ee1fb1", func := "interchange/interchangelaw10.ServeShuts", spec := "serveShuts", inPlace := ["internal/bytealg.IndexByteString", "internal/bytealg.IndexString"], unfollowed := true, recurses := true, named := ["internal/bytealg.MaxLen", "interchange/num.widths", "interchange/code.entries"], apart := false, laid := [("interchange/num.widths", laid_interchange_num_widths), ("interchange/code.entries", laid_interchange_code_entries)], narrowed := true }
def ServeShutsUptoSaid : Prop := serveShutsUptoRow.holds Tryd.pinned (OpenSpec.upto serveShutsSpec)

/-- 'interchangelaw11.DialWrong', WHERE WHAT IT READS IS OF BULK AT MOST 1048576: true; the input reads as it did. -/
def dialWrongUptoRow : OpenClaim := { program := "ytdogcnadopepmaadoor", sum := "c4902cad64d8a70cf27c5df6fbe99a877327453ac82fa0e1cb027b0d52ee1fb1", func := "interchange/interchangelaw11.DialWrong", spec := "dialWrong", inPlace := ["internal/bytealg.IndexByteString", "internal/bytealg.IndexString"], unfollowed := true, recurses := true, named := ["unicode/utf8.first", "unicode/utf8.acceptRanges", "internal/bytealg.MaxLen", "interchange/num.widths"], apart := false, laid := [("unicode/utf8.acceptRanges", laid_unicode_utf8_acceptRanges), ("interchange/num.widths", laid_interchange_num_widths), ("unicode/utf8.first", laid_unicode_utf8_first)], narrowed := true }
def DialWrongUptoSaid : Prop := dialWrongUptoRow.holds Tryd.pinned (OpenSpec.upto dialWrongSpec)

/-- 'interchangelaw11.DialRises', WHERE WHAT IT READS IS OF BULK AT MOST 1048576: true; the input reads as it did. -/
def dialRisesUptoRow : OpenClaim := { program := "ytdogcnadopepmaadoor", sum := "c4902cad64d8a70cf27c5df6fbe99a877327453ac82fa0e1cb027b0d52ee1fb1", func := "interchange/interchangelaw11.DialRises", spec := "dialRises", inPlace := ["internal/bytealg.IndexByteString", "internal/bytealg.IndexString"], unfollowed := true, recurses := true, named := ["unicode/utf8.first", "unicode/utf8.acceptRanges", "internal/bytealg.MaxLen", "interchange/num.widths"], apart := false, laid := [("unicode/utf8.acceptRanges", laid_unicode_utf8_acceptRanges), ("interchange/num.widths", laid_interchange_num_widths), ("unicode/utf8.first", laid_unicode_utf8_first)], narrowed := true }
def DialRisesUptoSaid : Prop := dialRisesUptoRow.holds Tryd.pinned (OpenSpec.upto dialRisesSpec)

/-- 'interchangelaw11.DialTalks', WHERE WHAT IT READS IS OF BULK AT MOST 1048576: true; the input reads as it did. -/
def dialTalksUptoRow : OpenClaim := { program := "ytdogcnadopepmaadoor", sum := "c4902cad64d8a70cf27c5df6fbe99a877327453ac82fa0e1cb027b0d52ee1fb1", func := "interchange/interchangelaw11.DialTalks", spec := "dialTalks", inPlace := ["internal/bytealg.IndexByteString", "internal/bytealg.IndexString"], unfollowed := true, recurses := true, named := ["unicode/utf8.first", "unicode/utf8.acceptRanges", "internal/bytealg.MaxLen", "interchange/num.widths"], apart := false, laid := [("unicode/utf8.acceptRanges", laid_unicode_utf8_acceptRanges), ("interchange/num.widths", laid_interchange_num_widths), ("unicode/utf8.first", laid_unicode_utf8_first)], narrowed := true }
def DialTalksUptoSaid : Prop := dialTalksUptoRow.holds Tryd.pinned (OpenSpec.upto dialTalksSpec)

end Rows
end Go.Proofs.YtdogcnadopepmaaDoor
