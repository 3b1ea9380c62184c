/-
  No cell of these rows narrows 'for every input' (looked for: loops, veiled, ifaces, maps, wideKeys, modest, calm, conditions, laid).
  DERIVED. THE GIVEN ROWS OF THIS SEAT. 6 by the template 'for every input the law returns true; each argument reads behind the call as it read before'; 0 by the template 'total and deterministic' (their statements: YtdcjemjfliaaiaaTotals.lean).
  GIVEN WITH THE SEED: the statements are not yours to turn. If you find one false, say at which input.
  Laid BY PROGRAM, IN A SANDBOX (cutbox-rows.mjs): the forced cells as the released guide's own fill.sh prints them over the translation 98cb3a87850c3af4… (all of the seat's roots in one cut). By AI agents, Wed Nov 11 2026. No macro, syntax, notation, axiom, sorry.
-/
import Derived.Test.YtdcjemjfliaaiaaChecked
import GoSem.Claim
import GoSem.ClaimJoined
import GoSem.ClaimMapViews
import Derived.JoinedTies
import Derived.KernelRfl
namespace Go.Proofs.Ytdcjemjfliaaiaa
/- THE CELL 'sum', in the pinned program and in every row, IS THE sha256 OF THE DUMP (.gsa) THAT YtdcjemjfliaaiaaProg.lean LOADS. Nothing in Lean hashes anything: it is a label: what it is worth is what the hold of that sum in a sandbox is worth. -/
noncomputable def Try.pinned : Pinned := { name := "ytdcjemjfliaaiaa", sum := "98cb3a87850c3af4caf9b13bc97e94b0b061aafb4779e3c7ee3fe7e506bb0d16", checked := Try.checked }
namespace Rows
def none {H : Type} : Left H := { results := [], args := [] }

/-- 'semigrouplaw38.FirstorderLogic': WHATEVER THE INPUT: true; the input reads as it did. -/
def firstorderLogicSpec : ChangeSpec := { name := "firstorderLogic", fn := fun _ => fun
  | [d1, d2] => { results := [.lit (.bool true)], args := [d1, d2] }
  | _ => none }
def firstorderLogicRow : OpenClaim := { program := "ytdcjemjfliaaiaa", sum := "98cb3a87850c3af4caf9b13bc97e94b0b061aafb4779e3c7ee3fe7e506bb0d16", func := "semigroup/semigrouplaw38.FirstorderLogic", spec := "firstorderLogic", plainKeys := false, apart := false }
def FirstorderLogicSaid : Prop := firstorderLogicRow.holds Try.pinned (OpenSpec.ofChange firstorderLogicSpec)

/-- ITS FALSE NEIGHBOUR: 'it returns false'. Refute it at one input. -/
def firstorderLogicWrong : ChangeSpec := { name := "firstorderLogic", fn := fun _ => fun
  | [d1, d2] => { results := [.lit (.bool false)], args := [d1, d2] }
  | _ => none }
def FirstorderLogicWrongFalsely : Prop := firstorderLogicRow.holds Try.pinned (OpenSpec.ofChange firstorderLogicWrong)

/-- 'semigrouplaw38.FirstorderRaw': WHATEVER THE INPUT: true; the input reads as it did. -/
def firstorderRawSpec : ChangeSpec := { name := "firstorderRaw", fn := fun _ => fun
  | [d1, d2, d3, d4] => { results := [.lit (.bool true)], args := [d1, d2, d3, d4] }
  | _ => none }
def firstorderRawRow : OpenClaim := { program := "ytdcjemjfliaaiaa", sum := "98cb3a87850c3af4caf9b13bc97e94b0b061aafb4779e3c7ee3fe7e506bb0d16", func := "semigroup/semigrouplaw38.FirstorderRaw", spec := "firstorderRaw", plainKeys := false, apart := false }
def FirstorderRawSaid : Prop := firstorderRawRow.holds Try.pinned (OpenSpec.ofChange firstorderRawSpec)

/-- ITS FALSE NEIGHBOUR: 'it returns false'. Refute it at one input. -/
def firstorderRawWrong : ChangeSpec := { name := "firstorderRaw", fn := fun _ => fun
  | [d1, d2, d3, d4] => { results := [.lit (.bool false)], args := [d1, d2, d3, d4] }
  | _ => none }
def FirstorderRawWrongFalsely : Prop := firstorderRawRow.holds Try.pinned (OpenSpec.ofChange firstorderRawWrong)

/-- 'semigrouplaw38.FirstorderMade': WHATEVER THE INPUT: true; the input reads as it did. -/
def firstorderMadeSpec : ChangeSpec := { name := "firstorderMade", fn := fun _ => fun
  | [d1, d2, d3, d4] => { results := [.lit (.bool true)], args := [d1, d2, d3, d4] }
  | _ => none }
def firstorderMadeRow : OpenClaim := { program := "ytdcjemjfliaaiaa", sum := "98cb3a87850c3af4caf9b13bc97e94b0b061aafb4779e3c7ee3fe7e506bb0d16", func := "semigroup/semigrouplaw38.FirstorderMade", spec := "firstorderMade", plainKeys := false, apart := false }
def FirstorderMadeSaid : Prop := firstorderMadeRow.holds Try.pinned (OpenSpec.ofChange firstorderMadeSpec)

/-- ITS FALSE NEIGHBOUR: 'it returns false'. Refute it at one input. -/
def firstorderMadeWrong : ChangeSpec := { name := "firstorderMade", fn := fun _ => fun
  | [d1, d2, d3, d4] => { results := [.lit (.bool false)], args := [d1, d2, d3, d4] }
  | _ => none }
def FirstorderMadeWrongFalsely : Prop := firstorderMadeRow.holds Try.pinned (OpenSpec.ofChange firstorderMadeWrong)

/-- 'semigrouplaw38.FirstorderOf': WHATEVER THE INPUT: true; the input reads as it did. -/
def firstorderOfSpec : ChangeSpec := { name := "firstorderOf", fn := fun _ => fun
  | [d] => { results := [.lit (.bool true)], args := [d] }
  | _ => none }
def firstorderOfRow : OpenClaim := { program := "ytdcjemjfliaaiaa", sum := "98cb3a87850c3af4caf9b13bc97e94b0b061aafb4779e3c7ee3fe7e506bb0d16", func := "semigroup/semigrouplaw38.FirstorderOf", spec := "firstorderOf", plainKeys := false, apart := false }
def FirstorderOfSaid : Prop := firstorderOfRow.holds Try.pinned (OpenSpec.ofChange firstorderOfSpec)

/-- ITS FALSE NEIGHBOUR: 'it returns false'. Refute it at one input. -/
def firstorderOfWrong : ChangeSpec := { name := "firstorderOf", fn := fun _ => fun
  | [d] => { results := [.lit (.bool false)], args := [d] }
  | _ => none }
def FirstorderOfWrongFalsely : Prop := firstorderOfRow.holds Try.pinned (OpenSpec.ofChange firstorderOfWrong)

/-- 'semigrouplaw38.FirstorderErrors': WHATEVER THE INPUT: true; the input reads as it did. -/
def firstorderErrorsSpec : ChangeSpec := { name := "firstorderErrors", fn := fun _ => fun
  | [d1, d2] => { results := [.lit (.bool true)], args := [d1, d2] }
  | _ => none }
def firstorderErrorsRow : OpenClaim := { program := "ytdcjemjfliaaiaa", sum := "98cb3a87850c3af4caf9b13bc97e94b0b061aafb4779e3c7ee3fe7e506bb0d16", func := "semigroup/semigrouplaw38.FirstorderErrors", spec := "firstorderErrors", plainKeys := false, apart := false }
def FirstorderErrorsSaid : Prop := firstorderErrorsRow.holds Try.pinned (OpenSpec.ofChange firstorderErrorsSpec)

/-- ITS FALSE NEIGHBOUR: 'it returns false'. Refute it at one input. -/
def firstorderErrorsWrong : ChangeSpec := { name := "firstorderErrors", fn := fun _ => fun
  | [d1, d2] => { results := [.lit (.bool false)], args := [d1, d2] }
  | _ => none }
def FirstorderErrorsWrongFalsely : Prop := firstorderErrorsRow.holds Try.pinned (OpenSpec.ofChange firstorderErrorsWrong)

/-- 'semigrouplaw38.FirstorderWords': WHATEVER THE INPUT: true; the input reads as it did. -/
def firstorderWordsSpec : ChangeSpec := { name := "firstorderWords", fn := fun _ => fun
  | [d1, d2] => { results := [.lit (.bool true)], args := [d1, d2] }
  | _ => none }
def firstorderWordsRow : OpenClaim := { program := "ytdcjemjfliaaiaa", sum := "98cb3a87850c3af4caf9b13bc97e94b0b061aafb4779e3c7ee3fe7e506bb0d16", func := "semigroup/semigrouplaw38.FirstorderWords", spec := "firstorderWords", plainKeys := false, apart := false }
def FirstorderWordsSaid : Prop := firstorderWordsRow.holds Try.pinned (OpenSpec.ofChange firstorderWordsSpec)

/-- ITS FALSE NEIGHBOUR: 'it returns false'. Refute it at one input. -/
def firstorderWordsWrong : ChangeSpec := { name := "firstorderWords", fn := fun _ => fun
  | [d1, d2] => { results := [.lit (.bool false)], args := [d1, d2] }
  | _ => none }
def FirstorderWordsWrongFalsely : Prop := firstorderWordsRow.holds Try.pinned (OpenSpec.ofChange firstorderWordsWrong)

/- THE SECOND FORM. 'bulk': how many values and letters a reading holds, each counted each time it is reached (what is shared counts as often as it is met; a slice's spare places count too). A statement '..UptoSaid' is the law's where the arguments, and the package variables that the reading takes, are together of bulk at most 1048576: NARROWER than '..Said'. Prove '..Said' where nothing that the law and all that it calls make is longer than what came in: it says more and counts as full. Else prove '..UptoSaid'. A law counts once. -/
mutual
def uptoBulk {H : Type} : DataW H → Nat
  | .lit (.string bytes) => bytes.length + 1
  | .lit _ => 1
  | .nil => 1
  | .ptr d => uptoBulk d + 1
  | .slice elems spare => uptoBulkAll elems + uptoBulkAll spare + 1
  | .agg parts => uptoBulkAll parts + 1
  | .iface _ d => uptoBulk d + 1
  | .map entries => uptoBulkEntries entries + 1
  | .held _ => 1
def uptoBulkAll {H : Type} : List (DataW H) → Nat
  | [] => 0
  | d :: r => uptoBulk d + uptoBulkAll r
def uptoBulkEntries {H : Type} : List (Lit × DataW H) → Nat
  | [] => 0
  | x :: r => uptoBulkEntry x + uptoBulkEntries r
def uptoBulkEntry {H : Type} : Lit × DataW H → Nat
  | (.string bytes, d) => bytes.length + uptoBulk d + 1
  | (_, d) => uptoBulk d + 1
 end
def uptoSmall : (H : Type) → List (DataW H) → Bool := fun _ ds => decide (uptoBulkAll ds ≤ 1048576)
def OpenSpec.upto (s : _root_.Go.ChangeSpec) : _root_.Go.OpenSpec := { _root_.Go.OpenSpec.ofChange s with cond := some uptoSmall }

/-- 'semigrouplaw38.FirstorderLogic', WHERE WHAT IT READS IS OF BULK AT MOST 1048576: true; the input reads as it did. -/
def firstorderLogicUptoRow : OpenClaim := { program := "ytdcjemjfliaaiaa", sum := "98cb3a87850c3af4caf9b13bc97e94b0b061aafb4779e3c7ee3fe7e506bb0d16", func := "semigroup/semigrouplaw38.FirstorderLogic", spec := "firstorderLogic", plainKeys := false, apart := false, narrowed := true }
def FirstorderLogicUptoSaid : Prop := firstorderLogicUptoRow.holds Try.pinned (OpenSpec.upto firstorderLogicSpec)

/-- 'semigrouplaw38.FirstorderRaw', WHERE WHAT IT READS IS OF BULK AT MOST 1048576: true; the input reads as it did. -/
def firstorderRawUptoRow : OpenClaim := { program := "ytdcjemjfliaaiaa", sum := "98cb3a87850c3af4caf9b13bc97e94b0b061aafb4779e3c7ee3fe7e506bb0d16", func := "semigroup/semigrouplaw38.FirstorderRaw", spec := "firstorderRaw", plainKeys := false, apart := false, narrowed := true }
def FirstorderRawUptoSaid : Prop := firstorderRawUptoRow.holds Try.pinned (OpenSpec.upto firstorderRawSpec)

/-- 'semigrouplaw38.FirstorderMade', WHERE WHAT IT READS IS OF BULK AT MOST 1048576: true; the input reads as it did. -/
def firstorderMadeUptoRow : OpenClaim := { program := "ytdcjemjfliaaiaa", sum := "98cb3a87850c3af4caf9b13bc97e94b0b061aafb4779e3c7ee3fe7e506bb0d16", func := "semigroup/semigrouplaw38.FirstorderMade", spec := "firstorderMade", plainKeys := false, apart := false, narrowed := true }
def FirstorderMadeUptoSaid : Prop := firstorderMadeUptoRow.holds Try.pinned (OpenSpec.upto firstorderMadeSpec)

/-- 'semigrouplaw38.FirstorderOf', WHERE WHAT IT READS IS OF BULK AT MOST 1048576: true; the input reads as it did. -/
def firstorderOfUptoRow : OpenClaim := { program := "ytdcjemjfliaaiaa", sum := "98cb3a87850c3af4caf9b13bc97e94b0b061aafb4779e3c7ee3fe7e506bb0d16", func := "semigroup/semigrouplaw38.FirstorderOf", spec := "firstorderOf", plainKeys := false, apart := false, narrowed := true }
def FirstorderOfUptoSaid : Prop := firstorderOfUptoRow.holds Try.pinned (OpenSpec.upto firstorderOfSpec)

/-- 'semigrouplaw38.FirstorderErrors', WHERE WHAT IT READS IS OF BULK AT MOST 1048576: true; the input reads as it did. -/
def firstorderErrorsUptoRow : OpenClaim := { program := "ytdcjemjfliaaiaa", sum := "98cb3a87850c3af4caf9b13bc97e94b0b061aafb4779e3c7ee3fe7e506bb0d16", func := "semigroup/semigrouplaw38.FirstorderErrors", spec := "firstorderErrors", plainKeys := false, apart := false, narrowed := true }
def FirstorderErrorsUptoSaid : Prop := firstorderErrorsUptoRow.holds Try.pinned (OpenSpec.upto firstorderErrorsSpec)

/-- 'semigrouplaw38.FirstorderWords', WHERE WHAT IT READS IS OF BULK AT MOST 1048576: true; the input reads as it did. -/
def firstorderWordsUptoRow : OpenClaim := { program := "ytdcjemjfliaaiaa", sum := "98cb3a87850c3af4caf9b13bc97e94b0b061aafb4779e3c7ee3fe7e506bb0d16", func := "semigroup/semigrouplaw38.FirstorderWords", spec := "firstorderWords", plainKeys := false, apart := false, narrowed := true }
def FirstorderWordsUptoSaid : Prop := firstorderWordsUptoRow.holds Try.pinned (OpenSpec.upto firstorderWordsSpec)

end Rows
end Go.Proofs.Ytdcjemjfliaaiaa
