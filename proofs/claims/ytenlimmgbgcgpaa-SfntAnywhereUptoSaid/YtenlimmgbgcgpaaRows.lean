/-
  No cell of these rows narrows 'for every input' (looked for: loops, veiled, ifaces, maps, wideKeys, modest, calm, conditions, laid).
  DERIVED. THE GIVEN ROWS OF THIS SEAT. 12 by the template 'for every input the law returns true; each argument reads behind the call as it read before'; 0 by the template 'total and deterministic' (their statements: YtenlimmgbgcgpaaTotals.lean).
  GIVEN WITH THE SEED: the statements are not yours to turn. If you find one false, say at which input.
  Laid BY PROGRAM, IN A SANDBOX (cutbox-rows.mjs): the forced cells as the released guide's own fill.sh prints them over the translation 261aeddb7612fff0… (all of the seat's roots in one cut). By AI agents, Wed Nov 11 2026. No macro, syntax, notation, axiom, sorry.
-/
import Derived.Test.YtenlimmgbgcgpaaChecked
import GoSem.Claim
import GoSem.ClaimJoined
import GoSem.ClaimMapViews
import Derived.JoinedTies
import Derived.KernelRfl
namespace Go.Proofs.Ytenlimmgbgcgpaa
/- THE CELL 'sum', in the pinned program and in every row, IS THE sha256 OF THE DUMP (.gsa) THAT YtenlimmgbgcgpaaProg.lean LOADS. Nothing in Lean hashes anything: it is a label: what it is worth is what the hold of that sum in a sandbox is worth. -/
noncomputable def Try.pinned : Pinned := { name := "ytenlimmgbgcgpaa", sum := "261aeddb7612fff0730f6e7585ce1ef8051bdf10a9e9a35604f57822dfe06ae5", checked := Try.checked }
namespace Rows
def none {H : Type} : Left H := { results := [], args := [] }

/-- 'versallaw14.SfntTells': WHATEVER THE INPUT: true; the input reads as it did. -/
def sfntTellsSpec : ChangeSpec := { name := "sfntTells", fn := fun _ => fun
  | [d1, d2, d3, d4, d5, d6, d7] => { results := [.lit (.bool true)], args := [d1, d2, d3, d4, d5, d6, d7] }
  | _ => none }
def sfntTellsRow : OpenClaim := { program := "ytenlimmgbgcgpaa", sum := "261aeddb7612fff0730f6e7585ce1ef8051bdf10a9e9a35604f57822dfe06ae5", func := "versal/versallaw14.SfntTells", spec := "sfntTells", apart := false }
def SfntTellsSaid : Prop := sfntTellsRow.holds Try.pinned (OpenSpec.ofChange sfntTellsSpec)

/-- ITS FALSE NEIGHBOUR: 'it returns false'. Refute it at one input. -/
def sfntTellsWrong : ChangeSpec := { name := "sfntTells", fn := fun _ => fun
  | [d1, d2, d3, d4, d5, d6, d7] => { results := [.lit (.bool false)], args := [d1, d2, d3, d4, d5, d6, d7] }
  | _ => none }
def SfntTellsWrongFalsely : Prop := sfntTellsRow.holds Try.pinned (OpenSpec.ofChange sfntTellsWrong)

/-- 'versallaw14.SfntBack': WHATEVER THE INPUT: true; the input reads as it did. -/
def sfntBackSpec : ChangeSpec := { name := "sfntBack", fn := fun _ => fun
  | [d1, d2] => { results := [.lit (.bool true)], args := [d1, d2] }
  | _ => none }
def sfntBackRow : OpenClaim := { program := "ytenlimmgbgcgpaa", sum := "261aeddb7612fff0730f6e7585ce1ef8051bdf10a9e9a35604f57822dfe06ae5", func := "versal/versallaw14.SfntBack", spec := "sfntBack", apart := false }
def SfntBackSaid : Prop := sfntBackRow.holds Try.pinned (OpenSpec.ofChange sfntBackSpec)

/-- ITS FALSE NEIGHBOUR: 'it returns false'. Refute it at one input. -/
def sfntBackWrong : ChangeSpec := { name := "sfntBack", fn := fun _ => fun
  | [d1, d2] => { results := [.lit (.bool false)], args := [d1, d2] }
  | _ => none }
def SfntBackWrongFalsely : Prop := sfntBackRow.holds Try.pinned (OpenSpec.ofChange sfntBackWrong)

/-- 'versallaw14.SfntAnywhere': WHATEVER THE INPUT: true; the input reads as it did. -/
def sfntAnywhereSpec : ChangeSpec := { name := "sfntAnywhere", fn := fun _ => fun
  | [d1, d2] => { results := [.lit (.bool true)], args := [d1, d2] }
  | _ => none }
def sfntAnywhereRow : OpenClaim := { program := "ytenlimmgbgcgpaa", sum := "261aeddb7612fff0730f6e7585ce1ef8051bdf10a9e9a35604f57822dfe06ae5", func := "versal/versallaw14.SfntAnywhere", spec := "sfntAnywhere", apart := false }
def SfntAnywhereSaid : Prop := sfntAnywhereRow.holds Try.pinned (OpenSpec.ofChange sfntAnywhereSpec)

/-- ITS FALSE NEIGHBOUR: 'it returns false'. Refute it at one input. -/
def sfntAnywhereWrong : ChangeSpec := { name := "sfntAnywhere", fn := fun _ => fun
  | [d1, d2] => { results := [.lit (.bool false)], args := [d1, d2] }
  | _ => none }
def SfntAnywhereWrongFalsely : Prop := sfntAnywhereRow.holds Try.pinned (OpenSpec.ofChange sfntAnywhereWrong)

/-- 'versallaw15.MetricTells': WHATEVER THE INPUT: true; the input reads as it did. -/
def metricTellsSpec : ChangeSpec := { name := "metricTells", fn := fun _ => fun
  | [d1, d2, d3, d4, d5, d6, d7, d8, d9, d10, d11] => { results := [.lit (.bool true)], args := [d1, d2, d3, d4, d5, d6, d7, d8, d9, d10, d11] }
  | _ => none }
def metricTellsRow : OpenClaim := { program := "ytenlimmgbgcgpaa", sum := "261aeddb7612fff0730f6e7585ce1ef8051bdf10a9e9a35604f57822dfe06ae5", func := "versal/versallaw15.MetricTells", spec := "metricTells", apart := false }
def MetricTellsSaid : Prop := metricTellsRow.holds Try.pinned (OpenSpec.ofChange metricTellsSpec)

/-- ITS FALSE NEIGHBOUR: 'it returns false'. Refute it at one input. -/
def metricTellsWrong : ChangeSpec := { name := "metricTells", fn := fun _ => fun
  | [d1, d2, d3, d4, d5, d6, d7, d8, d9, d10, d11] => { results := [.lit (.bool false)], args := [d1, d2, d3, d4, d5, d6, d7, d8, d9, d10, d11] }
  | _ => none }
def MetricTellsWrongFalsely : Prop := metricTellsRow.holds Try.pinned (OpenSpec.ofChange metricTellsWrong)

/-- 'versallaw15.MetricRanges': WHATEVER THE INPUT: true; the input reads as it did. -/
def metricRangesSpec : ChangeSpec := { name := "metricRanges", fn := fun _ => fun
  | [d1, d2, d3] => { results := [.lit (.bool true)], args := [d1, d2, d3] }
  | _ => none }
def metricRangesRow : OpenClaim := { program := "ytenlimmgbgcgpaa", sum := "261aeddb7612fff0730f6e7585ce1ef8051bdf10a9e9a35604f57822dfe06ae5", func := "versal/versallaw15.MetricRanges", spec := "metricRanges", apart := false }
def MetricRangesSaid : Prop := metricRangesRow.holds Try.pinned (OpenSpec.ofChange metricRangesSpec)

/-- ITS FALSE NEIGHBOUR: 'it returns false'. Refute it at one input. -/
def metricRangesWrong : ChangeSpec := { name := "metricRanges", fn := fun _ => fun
  | [d1, d2, d3] => { results := [.lit (.bool false)], args := [d1, d2, d3] }
  | _ => none }
def MetricRangesWrongFalsely : Prop := metricRangesRow.holds Try.pinned (OpenSpec.ofChange metricRangesWrong)

/-- 'versallaw27.SbixNearest': WHATEVER THE INPUT: true; the input reads as it did. -/
def sbixNearestSpec : ChangeSpec := { name := "sbixNearest", fn := fun _ => fun
  | [d1, d2] => { results := [.lit (.bool true)], args := [d1, d2] }
  | _ => none }
def sbixNearestRow : OpenClaim := { program := "ytenlimmgbgcgpaa", sum := "261aeddb7612fff0730f6e7585ce1ef8051bdf10a9e9a35604f57822dfe06ae5", func := "versal/versallaw27.SbixNearest", spec := "sbixNearest", apart := false }
def SbixNearestSaid : Prop := sbixNearestRow.holds Try.pinned (OpenSpec.ofChange sbixNearestSpec)

/-- ITS FALSE NEIGHBOUR: 'it returns false'. Refute it at one input. -/
def sbixNearestWrong : ChangeSpec := { name := "sbixNearest", fn := fun _ => fun
  | [d1, d2] => { results := [.lit (.bool false)], args := [d1, d2] }
  | _ => none }
def SbixNearestWrongFalsely : Prop := sbixNearestRow.holds Try.pinned (OpenSpec.ofChange sbixNearestWrong)

/-- 'versallaw27.SbixDupes': WHATEVER THE INPUT: true; the input reads as it did. -/
def sbixDupesSpec : ChangeSpec := { name := "sbixDupes", fn := fun _ => fun
  | [d1, d2, d3, d4, d5] => { results := [.lit (.bool true)], args := [d1, d2, d3, d4, d5] }
  | _ => none }
def sbixDupesRow : OpenClaim := { program := "ytenlimmgbgcgpaa", sum := "261aeddb7612fff0730f6e7585ce1ef8051bdf10a9e9a35604f57822dfe06ae5", func := "versal/versallaw27.SbixDupes", spec := "sbixDupes", apart := false }
def SbixDupesSaid : Prop := sbixDupesRow.holds Try.pinned (OpenSpec.ofChange sbixDupesSpec)

/-- ITS FALSE NEIGHBOUR: 'it returns false'. Refute it at one input. -/
def sbixDupesWrong : ChangeSpec := { name := "sbixDupes", fn := fun _ => fun
  | [d1, d2, d3, d4, d5] => { results := [.lit (.bool false)], args := [d1, d2, d3, d4, d5] }
  | _ => none }
def SbixDupesWrongFalsely : Prop := sbixDupesRow.holds Try.pinned (OpenSpec.ofChange sbixDupesWrong)

/-- 'versallaw19.CpalTells': WHATEVER THE INPUT: true; the input reads as it did. -/
def cpalTellsSpec : ChangeSpec := { name := "cpalTells", fn := fun _ => fun
  | [d1, d2, d3, d4, d5, d6, d7, d8] => { results := [.lit (.bool true)], args := [d1, d2, d3, d4, d5, d6, d7, d8] }
  | _ => none }
def cpalTellsRow : OpenClaim := { program := "ytenlimmgbgcgpaa", sum := "261aeddb7612fff0730f6e7585ce1ef8051bdf10a9e9a35604f57822dfe06ae5", func := "versal/versallaw19.CpalTells", spec := "cpalTells", unfollowed := true, recurses := true, apart := false }
def CpalTellsSaid : Prop := cpalTellsRow.holds Try.pinned (OpenSpec.ofChange cpalTellsSpec)

/-- ITS FALSE NEIGHBOUR: 'it returns false'. Refute it at one input. -/
def cpalTellsWrong : ChangeSpec := { name := "cpalTells", fn := fun _ => fun
  | [d1, d2, d3, d4, d5, d6, d7, d8] => { results := [.lit (.bool false)], args := [d1, d2, d3, d4, d5, d6, d7, d8] }
  | _ => none }
def CpalTellsWrongFalsely : Prop := cpalTellsRow.holds Try.pinned (OpenSpec.ofChange cpalTellsWrong)

/-- 'versallaw19.CpalBack': WHATEVER THE INPUT: true; the input reads as it did. -/
def cpalBackSpec : ChangeSpec := { name := "cpalBack", fn := fun _ => fun
  | [d1, d2, d3, d4] => { results := [.lit (.bool true)], args := [d1, d2, d3, d4] }
  | _ => none }
def cpalBackRow : OpenClaim := { program := "ytenlimmgbgcgpaa", sum := "261aeddb7612fff0730f6e7585ce1ef8051bdf10a9e9a35604f57822dfe06ae5", func := "versal/versallaw19.CpalBack", spec := "cpalBack", unfollowed := true, recurses := true, apart := false }
def CpalBackSaid : Prop := cpalBackRow.holds Try.pinned (OpenSpec.ofChange cpalBackSpec)

/-- ITS FALSE NEIGHBOUR: 'it returns false'. Refute it at one input. -/
def cpalBackWrong : ChangeSpec := { name := "cpalBack", fn := fun _ => fun
  | [d1, d2, d3, d4] => { results := [.lit (.bool false)], args := [d1, d2, d3, d4] }
  | _ => none }
def CpalBackWrongFalsely : Prop := cpalBackRow.holds Try.pinned (OpenSpec.ofChange cpalBackWrong)

/-- 'versallaw24.ColrBoxes': WHATEVER THE INPUT: true; the input reads as it did. -/
def colrBoxesSpec : ChangeSpec := { name := "colrBoxes", fn := fun _ => fun
  | [d] => { results := [.lit (.bool true)], args := [d] }
  | _ => none }
def colrBoxesRow : OpenClaim := { program := "ytenlimmgbgcgpaa", sum := "261aeddb7612fff0730f6e7585ce1ef8051bdf10a9e9a35604f57822dfe06ae5", func := "versal/versallaw24.ColrBoxes", spec := "colrBoxes", unfollowed := true, recurses := true, apart := false }
def ColrBoxesSaid : Prop := colrBoxesRow.holds Try.pinned (OpenSpec.ofChange colrBoxesSpec)

/-- ITS FALSE NEIGHBOUR: 'it returns false'. Refute it at one input. -/
def colrBoxesWrong : ChangeSpec := { name := "colrBoxes", fn := fun _ => fun
  | [d] => { results := [.lit (.bool false)], args := [d] }
  | _ => none }
def ColrBoxesWrongFalsely : Prop := colrBoxesRow.holds Try.pinned (OpenSpec.ofChange colrBoxesWrong)

/-- 'versallaw24.ColrOld': WHATEVER THE INPUT: true; the input reads as it did. -/
def colrOldSpec : ChangeSpec := { name := "colrOld", fn := fun _ => fun
  | [d1, d2, d3] => { results := [.lit (.bool true)], args := [d1, d2, d3] }
  | _ => none }
def colrOldRow : OpenClaim := { program := "ytenlimmgbgcgpaa", sum := "261aeddb7612fff0730f6e7585ce1ef8051bdf10a9e9a35604f57822dfe06ae5", func := "versal/versallaw24.ColrOld", spec := "colrOld", unfollowed := true, recurses := true, apart := false }
def ColrOldSaid : Prop := colrOldRow.holds Try.pinned (OpenSpec.ofChange colrOldSpec)

/-- ITS FALSE NEIGHBOUR: 'it returns false'. Refute it at one input. -/
def colrOldWrong : ChangeSpec := { name := "colrOld", fn := fun _ => fun
  | [d1, d2, d3] => { results := [.lit (.bool false)], args := [d1, d2, d3] }
  | _ => none }
def ColrOldWrongFalsely : Prop := colrOldRow.holds Try.pinned (OpenSpec.ofChange colrOldWrong)

/-- 'versallaw24.ColrTells': WHATEVER THE INPUT: true; the input reads as it did. -/
def colrTellsSpec : ChangeSpec := { name := "colrTells", fn := fun _ => fun
  | [d1, d2, d3, d4, d5, d6] => { results := [.lit (.bool true)], args := [d1, d2, d3, d4, d5, d6] }
  | _ => none }
def colrTellsRow : OpenClaim := { program := "ytenlimmgbgcgpaa", sum := "261aeddb7612fff0730f6e7585ce1ef8051bdf10a9e9a35604f57822dfe06ae5", func := "versal/versallaw24.ColrTells", spec := "colrTells", unfollowed := true, recurses := true, apart := false }
def ColrTellsSaid : Prop := colrTellsRow.holds Try.pinned (OpenSpec.ofChange colrTellsSpec)

/-- ITS FALSE NEIGHBOUR: 'it returns false'. Refute it at one input. -/
def colrTellsWrong : ChangeSpec := { name := "colrTells", fn := fun _ => fun
  | [d1, d2, d3, d4, d5, d6] => { results := [.lit (.bool false)], args := [d1, d2, d3, d4, d5, d6] }
  | _ => none }
def ColrTellsWrongFalsely : Prop := colrTellsRow.holds Try.pinned (OpenSpec.ofChange colrTellsWrong)

/- THE SECOND FORM. 'bulk': how many values and letters a reading holds, each counted each time it is reached (what is shared counts as often as it is met; a slice's spare places count too). A statement '..UptoSaid' is the law's where the arguments, and the package variables that the reading takes, are together of bulk at most 1048576: NARROWER than '..Said'. Prove '..Said' where nothing that the law and all that it calls make is longer than what came in: it says more and counts as full. Else prove '..UptoSaid'. A law counts once. -/
mutual
def uptoBulk {H : Type} : DataW H → Nat
  | .lit (.string bytes) => bytes.length + 1
  | .lit _ => 1
  | .nil => 1
  | .ptr d => uptoBulk d + 1
  | .slice elems spare => uptoBulkAll elems + uptoBulkAll spare + 1
  | .agg parts => uptoBulkAll parts + 1
  | .iface _ d => uptoBulk d + 1
  | .map entries => uptoBulkEntries entries + 1
  | .held _ => 1
def uptoBulkAll {H : Type} : List (DataW H) → Nat
  | [] => 0
  | d :: r => uptoBulk d + uptoBulkAll r
def uptoBulkEntries {H : Type} : List (Lit × DataW H) → Nat
  | [] => 0
  | x :: r => uptoBulkEntry x + uptoBulkEntries r
def uptoBulkEntry {H : Type} : Lit × DataW H → Nat
  | (.string bytes, d) => bytes.length + uptoBulk d + 1
  | (_, d) => uptoBulk d + 1
 end
def uptoSmall : (H : Type) → List (DataW H) → Bool := fun _ ds => decide (uptoBulkAll ds ≤ 1048576)
def OpenSpec.upto (s : _root_.Go.ChangeSpec) : _root_.Go.OpenSpec := { _root_.Go.OpenSpec.ofChange s with cond := some uptoSmall }

/-- 'versallaw14.SfntTells', WHERE WHAT IT READS IS OF BULK AT MOST 1048576: true; the input reads as it did. -/
def sfntTellsUptoRow : OpenClaim := { program := "ytenlimmgbgcgpaa", sum := "261aeddb7612fff0730f6e7585ce1ef8051bdf10a9e9a35604f57822dfe06ae5", func := "versal/versallaw14.SfntTells", spec := "sfntTells", apart := false, narrowed := true }
def SfntTellsUptoSaid : Prop := sfntTellsUptoRow.holds Try.pinned (OpenSpec.upto sfntTellsSpec)

/-- 'versallaw14.SfntBack', WHERE WHAT IT READS IS OF BULK AT MOST 1048576: true; the input reads as it did. -/
def sfntBackUptoRow : OpenClaim := { program := "ytenlimmgbgcgpaa", sum := "261aeddb7612fff0730f6e7585ce1ef8051bdf10a9e9a35604f57822dfe06ae5", func := "versal/versallaw14.SfntBack", spec := "sfntBack", apart := false, narrowed := true }
def SfntBackUptoSaid : Prop := sfntBackUptoRow.holds Try.pinned (OpenSpec.upto sfntBackSpec)

/-- 'versallaw14.SfntAnywhere', WHERE WHAT IT READS IS OF BULK AT MOST 1048576: true; the input reads as it did. -/
def sfntAnywhereUptoRow : OpenClaim := { program := "ytenlimmgbgcgpaa", sum := "261aeddb7612fff0730f6e7585ce1ef8051bdf10a9e9a35604f57822dfe06ae5", func := "versal/versallaw14.SfntAnywhere", spec := "sfntAnywhere", apart := false, narrowed := true }
def SfntAnywhereUptoSaid : Prop := sfntAnywhereUptoRow.holds Try.pinned (OpenSpec.upto sfntAnywhereSpec)

/-- 'versallaw15.MetricTells', WHERE WHAT IT READS IS OF BULK AT MOST 1048576: true; the input reads as it did. -/
def metricTellsUptoRow : OpenClaim := { program := "ytenlimmgbgcgpaa", sum := "261aeddb7612fff0730f6e7585ce1ef8051bdf10a9e9a35604f57822dfe06ae5", func := "versal/versallaw15.MetricTells", spec := "metricTells", apart := false, narrowed := true }
def MetricTellsUptoSaid : Prop := metricTellsUptoRow.holds Try.pinned (OpenSpec.upto metricTellsSpec)

/-- 'versallaw15.MetricRanges', WHERE WHAT IT READS IS OF BULK AT MOST 1048576: true; the input reads as it did. -/
def metricRangesUptoRow : OpenClaim := { program := "ytenlimmgbgcgpaa", sum := "261aeddb7612fff0730f6e7585ce1ef8051bdf10a9e9a35604f57822dfe06ae5", func := "versal/versallaw15.MetricRanges", spec := "metricRanges", apart := false, narrowed := true }
def MetricRangesUptoSaid : Prop := metricRangesUptoRow.holds Try.pinned (OpenSpec.upto metricRangesSpec)

/-- 'versallaw27.SbixNearest', WHERE WHAT IT READS IS OF BULK AT MOST 1048576: true; the input reads as it did. -/
def sbixNearestUptoRow : OpenClaim := { program := "ytenlimmgbgcgpaa", sum := "261aeddb7612fff0730f6e7585ce1ef8051bdf10a9e9a35604f57822dfe06ae5", func := "versal/versallaw27.SbixNearest", spec := "sbixNearest", apart := false, narrowed := true }
def SbixNearestUptoSaid : Prop := sbixNearestUptoRow.holds Try.pinned (OpenSpec.upto sbixNearestSpec)

/-- 'versallaw27.SbixDupes', WHERE WHAT IT READS IS OF BULK AT MOST 1048576: true; the input reads as it did. -/
def sbixDupesUptoRow : OpenClaim := { program := "ytenlimmgbgcgpaa", sum := "261aeddb7612fff0730f6e7585ce1ef8051bdf10a9e9a35604f57822dfe06ae5", func := "versal/versallaw27.SbixDupes", spec := "sbixDupes", apart := false, narrowed := true }
def SbixDupesUptoSaid : Prop := sbixDupesUptoRow.holds Try.pinned (OpenSpec.upto sbixDupesSpec)

/-- 'versallaw19.CpalTells', WHERE WHAT IT READS IS OF BULK AT MOST 1048576: true; the input reads as it did. -/
def cpalTellsUptoRow : OpenClaim := { program := "ytenlimmgbgcgpaa", sum := "261aeddb7612fff0730f6e7585ce1ef8051bdf10a9e9a35604f57822dfe06ae5", func := "versal/versallaw19.CpalTells", spec := "cpalTells", unfollowed := true, recurses := true, apart := false, narrowed := true }
def CpalTellsUptoSaid : Prop := cpalTellsUptoRow.holds Try.pinned (OpenSpec.upto cpalTellsSpec)

/-- 'versallaw19.CpalBack', WHERE WHAT IT READS IS OF BULK AT MOST 1048576: true; the input reads as it did. -/
def cpalBackUptoRow : OpenClaim := { program := "ytenlimmgbgcgpaa", sum := "261aeddb7612fff0730f6e7585ce1ef8051bdf10a9e9a35604f57822dfe06ae5", func := "versal/versallaw19.CpalBack", spec := "cpalBack", unfollowed := true, recurses := true, apart := false, narrowed := true }
def CpalBackUptoSaid : Prop := cpalBackUptoRow.holds Try.pinned (OpenSpec.upto cpalBackSpec)

/-- 'versallaw24.ColrBoxes', WHERE WHAT IT READS IS OF BULK AT MOST 1048576: true; the input reads as it did. -/
def colrBoxesUptoRow : OpenClaim := { program := "ytenlimmgbgcgpaa", sum := "261aeddb7612fff0730f6e7585ce1ef8051bdf10a9e9a35604f57822dfe06ae5", func := "versal/versallaw24.ColrBoxes", spec := "colrBoxes", unfollowed := true, recurses := true, apart := false, narrowed := true }
def ColrBoxesUptoSaid : Prop := colrBoxesUptoRow.holds Try.pinned (OpenSpec.upto colrBoxesSpec)

/-- 'versallaw24.ColrOld', WHERE WHAT IT READS IS OF BULK AT MOST 1048576: true; the input reads as it did. -/
def colrOldUptoRow : OpenClaim := { program := "ytenlimmgbgcgpaa", sum := "261aeddb7612fff0730f6e7585ce1ef8051bdf10a9e9a35604f57822dfe06ae5", func := "versal/versallaw24.ColrOld", spec := "colrOld", unfollowed := true, recurses := true, apart := false, narrowed := true }
def ColrOldUptoSaid : Prop := colrOldUptoRow.holds Try.pinned (OpenSpec.upto colrOldSpec)

/-- 'versallaw24.ColrTells', WHERE WHAT IT READS IS OF BULK AT MOST 1048576: true; the input reads as it did. -/
def colrTellsUptoRow : OpenClaim := { program := "ytenlimmgbgcgpaa", sum := "261aeddb7612fff0730f6e7585ce1ef8051bdf10a9e9a35604f57822dfe06ae5", func := "versal/versallaw24.ColrTells", spec := "colrTells", unfollowed := true, recurses := true, apart := false, narrowed := true }
def ColrTellsUptoSaid : Prop := colrTellsUptoRow.holds Try.pinned (OpenSpec.upto colrTellsSpec)

end Rows
end Go.Proofs.Ytenlimmgbgcgpaa
