/-
  No cell of these rows narrows 'for every input' (looked for: loops, veiled, ifaces, maps, wideKeys, modest, calm, conditions, laid).
  DERIVED. THE GIVEN ROWS OF THIS SEAT. 4 by the template 'for every input the law returns true; each argument reads behind the call as it read before'; 0 by the template 'total and deterministic' (their statements: YtjmflccbddjlhaaTotals.lean).
  GIVEN WITH THE SEED: the statements are not yours to turn. If you find one false, say at which input.
  Laid BY PROGRAM, IN A SANDBOX (cutbox-rows.mjs): the forced cells as the released guide's own fill.sh prints them over the translation 5f30034dfe22da0f… (all of the seat's roots in one cut). By AI agents, Wed Nov 11 2026. No macro, syntax, notation, axiom, sorry.
-/
import Derived.Test.YtjmflccbddjlhaaChecked
import GoSem.Claim
import GoSem.ClaimJoined
import GoSem.ClaimMapViews
import Derived.JoinedTies
import Derived.KernelRfl
namespace Go.Proofs.Ytjmflccbddjlhaa
/- THE CELL 'sum', in the pinned program and in every row, IS THE sha256 OF THE DUMP (.gsa) THAT YtjmflccbddjlhaaProg.lean LOADS. Nothing in Lean hashes anything: it is a label: what it is worth is what the hold of that sum in a sandbox is worth. -/
noncomputable def Try.pinned : Pinned := { name := "ytjmflccbddjlhaa", sum := "5f30034dfe22da0f2b798fccc505853a07c1bb146d946c974eaa74cb21433c26", checked := Try.checked }
namespace Rows
def none {H : Type} : Left H := { results := [], args := [] }

/-- 'versallaw17.FlatRounds': WHATEVER THE INPUT: true; the input reads as it did. -/
def flatRoundsSpec : ChangeSpec := { name := "flatRounds", fn := fun _ => fun
  | [d1, d2] => { results := [.lit (.bool true)], args := [d1, d2] }
  | _ => none }
def flatRoundsRow : OpenClaim := { program := "ytjmflccbddjlhaa", sum := "5f30034dfe22da0f2b798fccc505853a07c1bb146d946c974eaa74cb21433c26", func := "versal/versallaw17.FlatRounds", spec := "flatRounds", unfollowed := true, recurses := true, apart := false }
def FlatRoundsSaid : Prop := flatRoundsRow.holds Try.pinned (OpenSpec.ofChange flatRoundsSpec)

/-- ITS FALSE NEIGHBOUR: 'it returns false'. Refute it at one input. -/
def flatRoundsWrong : ChangeSpec := { name := "flatRounds", fn := fun _ => fun
  | [d1, d2] => { results := [.lit (.bool false)], args := [d1, d2] }
  | _ => none }
def FlatRoundsWrongFalsely : Prop := flatRoundsRow.holds Try.pinned (OpenSpec.ofChange flatRoundsWrong)

/-- 'versallaw17.FlatTells': WHATEVER THE INPUT: true; the input reads as it did. -/
def flatTellsSpec : ChangeSpec := { name := "flatTells", fn := fun _ => fun
  | [d1, d2, d3, d4, d5, d6, d7] => { results := [.lit (.bool true)], args := [d1, d2, d3, d4, d5, d6, d7] }
  | _ => none }
def flatTellsRow : OpenClaim := { program := "ytjmflccbddjlhaa", sum := "5f30034dfe22da0f2b798fccc505853a07c1bb146d946c974eaa74cb21433c26", func := "versal/versallaw17.FlatTells", spec := "flatTells", unfollowed := true, recurses := true, apart := false }
def FlatTellsSaid : Prop := flatTellsRow.holds Try.pinned (OpenSpec.ofChange flatTellsSpec)

/-- ITS FALSE NEIGHBOUR: 'it returns false'. Refute it at one input. -/
def flatTellsWrong : ChangeSpec := { name := "flatTells", fn := fun _ => fun
  | [d1, d2, d3, d4, d5, d6, d7] => { results := [.lit (.bool false)], args := [d1, d2, d3, d4, d5, d6, d7] }
  | _ => none }
def FlatTellsWrongFalsely : Prop := flatTellsRow.holds Try.pinned (OpenSpec.ofChange flatTellsWrong)

/-- 'versallaw7.CodesTells': WHATEVER THE INPUT: true; the input reads as it did. -/
def codesTellsSpec : ChangeSpec := { name := "codesTells", fn := fun _ => fun
  | [d1, d2, d3, d4] => { results := [.lit (.bool true)], args := [d1, d2, d3, d4] }
  | _ => none }
def codesTellsRow : OpenClaim := { program := "ytjmflccbddjlhaa", sum := "5f30034dfe22da0f2b798fccc505853a07c1bb146d946c974eaa74cb21433c26", func := "versal/versallaw7.CodesTells", spec := "codesTells", unfollowed := true, recurses := true, apart := false }
def CodesTellsSaid : Prop := codesTellsRow.holds Try.pinned (OpenSpec.ofChange codesTellsSpec)

/-- ITS FALSE NEIGHBOUR: 'it returns false'. Refute it at one input. -/
def codesTellsWrong : ChangeSpec := { name := "codesTells", fn := fun _ => fun
  | [d1, d2, d3, d4] => { results := [.lit (.bool false)], args := [d1, d2, d3, d4] }
  | _ => none }
def CodesTellsWrongFalsely : Prop := codesTellsRow.holds Try.pinned (OpenSpec.ofChange codesTellsWrong)

/-- 'versallaw7.CodesBack': WHATEVER THE INPUT: true; the input reads as it did. -/
def codesBackSpec : ChangeSpec := { name := "codesBack", fn := fun _ => fun
  | [d1, d2] => { results := [.lit (.bool true)], args := [d1, d2] }
  | _ => none }
def codesBackRow : OpenClaim := { program := "ytjmflccbddjlhaa", sum := "5f30034dfe22da0f2b798fccc505853a07c1bb146d946c974eaa74cb21433c26", func := "versal/versallaw7.CodesBack", spec := "codesBack", unfollowed := true, recurses := true, apart := false }
def CodesBackSaid : Prop := codesBackRow.holds Try.pinned (OpenSpec.ofChange codesBackSpec)

/-- ITS FALSE NEIGHBOUR: 'it returns false'. Refute it at one input. -/
def codesBackWrong : ChangeSpec := { name := "codesBack", fn := fun _ => fun
  | [d1, d2] => { results := [.lit (.bool false)], args := [d1, d2] }
  | _ => none }
def CodesBackWrongFalsely : Prop := codesBackRow.holds Try.pinned (OpenSpec.ofChange codesBackWrong)

/- THE SECOND FORM. 'bulk': how many values and letters a reading holds, each counted each time it is reached (what is shared counts as often as it is met; a slice's spare places count too). A statement '..UptoSaid' is the law's where the arguments, and the package variables that the reading takes, are together of bulk at most 1048576: NARROWER than '..Said'. Prove '..Said' where nothing that the law and all that it calls make is longer than what came in: it says more and counts as full. Else prove '..UptoSaid'. A law counts once. -/
mutual
def uptoBulk {H : Type} : DataW H → Nat
  | .lit (.string bytes) => bytes.length + 1
  | .lit _ => 1
  | .nil => 1
  | .ptr d => uptoBulk d + 1
  | .slice elems spare => uptoBulkAll elems + uptoBulkAll spare + 1
  | .agg parts => uptoBulkAll parts + 1
  | .iface _ d => uptoBulk d + 1
  | .map entries => uptoBulkEntries entries + 1
  | .held _ => 1
def uptoBulkAll {H : Type} : List (DataW H) → Nat
  | [] => 0
  | d :: r => uptoBulk d + uptoBulkAll r
def uptoBulkEntries {H : Type} : List (Lit × DataW H) → Nat
  | [] => 0
  | x :: r => uptoBulkEntry x + uptoBulkEntries r
def uptoBulkEntry {H : Type} : Lit × DataW H → Nat
  | (.string bytes, d) => bytes.length + uptoBulk d + 1
  | (_, d) => uptoBulk d + 1
 end
def uptoSmall : (H : Type) → List (DataW H) → Bool := fun _ ds => decide (uptoBulkAll ds ≤ 1048576)
def OpenSpec.upto (s : _root_.Go.ChangeSpec) : _root_.Go.OpenSpec := { _root_.Go.OpenSpec.ofChange s with cond := some uptoSmall }

/-- 'versallaw17.FlatRounds', WHERE WHAT IT READS IS OF BULK AT MOST 1048576: true; the input reads as it did. -/
def flatRoundsUptoRow : OpenClaim := { program := "ytjmflccbddjlhaa", sum := "5f30034dfe22da0f2b798fccc505853a07c1bb146d946c974eaa74cb21433c26", func := "versal/versallaw17.FlatRounds", spec := "flatRounds", unfollowed := true, recurses := true, apart := false, narrowed := true }
def FlatRoundsUptoSaid : Prop := flatRoundsUptoRow.holds Try.pinned (OpenSpec.upto flatRoundsSpec)

/-- 'versallaw17.FlatTells', WHERE WHAT IT READS IS OF BULK AT MOST 1048576: true; the input reads as it did. -/
def flatTellsUptoRow : OpenClaim := { program := "ytjmflccbddjlhaa", sum := "5f30034dfe22da0f2b798fccc505853a07c1bb146d946c974eaa74cb21433c26", func := "versal/versallaw17.FlatTells", spec := "flatTells", unfollowed := true, recurses := true, apart := false, narrowed := true }
def FlatTellsUptoSaid : Prop := flatTellsUptoRow.holds Try.pinned (OpenSpec.upto flatTellsSpec)

/-- 'versallaw7.CodesTells', WHERE WHAT IT READS IS OF BULK AT MOST 1048576: true; the input reads as it did. -/
def codesTellsUptoRow : OpenClaim := { program := "ytjmflccbddjlhaa", sum := "5f30034dfe22da0f2b798fccc505853a07c1bb146d946c974eaa74cb21433c26", func := "versal/versallaw7.CodesTells", spec := "codesTells", unfollowed := true, recurses := true, apart := false, narrowed := true }
def CodesTellsUptoSaid : Prop := codesTellsUptoRow.holds Try.pinned (OpenSpec.upto codesTellsSpec)

/-- 'versallaw7.CodesBack', WHERE WHAT IT READS IS OF BULK AT MOST 1048576: true; the input reads as it did. -/
def codesBackUptoRow : OpenClaim := { program := "ytjmflccbddjlhaa", sum := "5f30034dfe22da0f2b798fccc505853a07c1bb146d946c974eaa74cb21433c26", func := "versal/versallaw7.CodesBack", spec := "codesBack", unfollowed := true, recurses := true, apart := false, narrowed := true }
def CodesBackUptoSaid : Prop := codesBackUptoRow.holds Try.pinned (OpenSpec.upto codesBackSpec)

end Rows
end Go.Proofs.Ytjmflccbddjlhaa
