/-
  No cell of these rows narrows 'for every input' (looked for: loops, veiled, ifaces, maps, wideKeys, modest, calm, conditions, laid).
  DERIVED. THE GIVEN ROWS OF THIS SEAT. 6 by the template 'for every input the law returns true; each argument reads behind the call as it read before'; 0 by the template 'total and deterministic' (their statements: YtamolakhpcofhaaTotals.lean).
  GIVEN WITH THE SEED: the statements are not yours to turn. If you find one false, say at which input.
  Laid BY PROGRAM, IN A SANDBOX (cutbox-rows.mjs): the forced cells as the released guide's own fill.sh prints them over the translation 488c343c6d481e52… (all of the seat's roots in one cut). By AI agents, Wed Nov 11 2026. No macro, syntax, notation, axiom, sorry.
-/
import Derived.Test.YtamolakhpcofhaaChecked
import GoSem.Claim
import GoSem.ClaimJoined
import GoSem.ClaimMapViews
import Derived.JoinedTies
import Derived.KernelRfl
namespace Go.Proofs.Ytamolakhpcofhaa
/- THE CELL 'sum', in the pinned program and in every row, IS THE sha256 OF THE DUMP (.gsa) THAT YtamolakhpcofhaaProg.lean LOADS. Nothing in Lean hashes anything: it is a label: what it is worth is what the hold of that sum in a sandbox is worth. -/
noncomputable def Try.pinned : Pinned := { name := "ytamolakhpcofhaa", sum := "488c343c6d481e5219c71974ef2d2b4d12ce573fd1495b77772641917ea1905d", checked := Try.checked }
namespace Rows
def none {H : Type} : Left H := { results := [], args := [] }

/-- 'semigrouplaw42.SequentialNormal': WHATEVER THE INPUT: true; the input reads as it did. -/
def sequentialNormalSpec : ChangeSpec := { name := "sequentialNormal", fn := fun _ => fun
  | [d] => { results := [.lit (.bool true)], args := [d] }
  | _ => none }
def sequentialNormalRow : OpenClaim := { program := "ytamolakhpcofhaa", sum := "488c343c6d481e5219c71974ef2d2b4d12ce573fd1495b77772641917ea1905d", func := "semigroup/semigrouplaw42.SequentialNormal", spec := "sequentialNormal", inPlace := ["internal/abi.NoEscape"], plainKeys := false, apart := false }
def SequentialNormalSaid : Prop := sequentialNormalRow.holds Try.pinned (OpenSpec.ofChange sequentialNormalSpec)

/-- ITS FALSE NEIGHBOUR: 'it returns false'. Refute it at one input. -/
def sequentialNormalWrong : ChangeSpec := { name := "sequentialNormal", fn := fun _ => fun
  | [d] => { results := [.lit (.bool false)], args := [d] }
  | _ => none }
def SequentialNormalWrongFalsely : Prop := sequentialNormalRow.holds Try.pinned (OpenSpec.ofChange sequentialNormalWrong)

/-- 'semigrouplaw42.SequentialComposes': WHATEVER THE INPUT: true; the input reads as it did. -/
def sequentialComposesSpec : ChangeSpec := { name := "sequentialComposes", fn := fun _ => fun
  | [d1, d2] => { results := [.lit (.bool true)], args := [d1, d2] }
  | _ => none }
def sequentialComposesRow : OpenClaim := { program := "ytamolakhpcofhaa", sum := "488c343c6d481e5219c71974ef2d2b4d12ce573fd1495b77772641917ea1905d", func := "semigroup/semigrouplaw42.SequentialComposes", spec := "sequentialComposes", inPlace := ["internal/abi.NoEscape"], plainKeys := false, apart := false }
def SequentialComposesSaid : Prop := sequentialComposesRow.holds Try.pinned (OpenSpec.ofChange sequentialComposesSpec)

/-- ITS FALSE NEIGHBOUR: 'it returns false'. Refute it at one input. -/
def sequentialComposesWrong : ChangeSpec := { name := "sequentialComposes", fn := fun _ => fun
  | [d1, d2] => { results := [.lit (.bool false)], args := [d1, d2] }
  | _ => none }
def SequentialComposesWrongFalsely : Prop := sequentialComposesRow.holds Try.pinned (OpenSpec.ofChange sequentialComposesWrong)

/-- 'semigrouplaw42.SequentialEqual': WHATEVER THE INPUT: true; the input reads as it did. -/
def sequentialEqualSpec : ChangeSpec := { name := "sequentialEqual", fn := fun _ => fun
  | [d1, d2, d3, d4] => { results := [.lit (.bool true)], args := [d1, d2, d3, d4] }
  | _ => none }
def sequentialEqualRow : OpenClaim := { program := "ytamolakhpcofhaa", sum := "488c343c6d481e5219c71974ef2d2b4d12ce573fd1495b77772641917ea1905d", func := "semigroup/semigrouplaw42.SequentialEqual", spec := "sequentialEqual", inPlace := ["internal/abi.NoEscape"], plainKeys := false, apart := false }
def SequentialEqualSaid : Prop := sequentialEqualRow.holds Try.pinned (OpenSpec.ofChange sequentialEqualSpec)

/-- ITS FALSE NEIGHBOUR: 'it returns false'. Refute it at one input. -/
def sequentialEqualWrong : ChangeSpec := { name := "sequentialEqual", fn := fun _ => fun
  | [d1, d2, d3, d4] => { results := [.lit (.bool false)], args := [d1, d2, d3, d4] }
  | _ => none }
def SequentialEqualWrongFalsely : Prop := sequentialEqualRow.holds Try.pinned (OpenSpec.ofChange sequentialEqualWrong)

/-- 'semigrouplaw42.SequentialInverse': WHATEVER THE INPUT: true; the input reads as it did. -/
def sequentialInverseSpec : ChangeSpec := { name := "sequentialInverse", fn := fun _ => fun
  | [d1, d2] => { results := [.lit (.bool true)], args := [d1, d2] }
  | _ => none }
def sequentialInverseRow : OpenClaim := { program := "ytamolakhpcofhaa", sum := "488c343c6d481e5219c71974ef2d2b4d12ce573fd1495b77772641917ea1905d", func := "semigroup/semigrouplaw42.SequentialInverse", spec := "sequentialInverse", inPlace := ["internal/abi.NoEscape"], unfollowed := true, recurses := true, plainKeys := false, apart := false }
def SequentialInverseSaid : Prop := sequentialInverseRow.holds Try.pinned (OpenSpec.ofChange sequentialInverseSpec)

/-- ITS FALSE NEIGHBOUR: 'it returns false'. Refute it at one input. -/
def sequentialInverseWrong : ChangeSpec := { name := "sequentialInverse", fn := fun _ => fun
  | [d1, d2] => { results := [.lit (.bool false)], args := [d1, d2] }
  | _ => none }
def SequentialInverseWrongFalsely : Prop := sequentialInverseRow.holds Try.pinned (OpenSpec.ofChange sequentialInverseWrong)

/-- 'semigrouplaw42.SequentialSame': WHATEVER THE INPUT: true; the input reads as it did. -/
def sequentialSameSpec : ChangeSpec := { name := "sequentialSame", fn := fun _ => fun
  | [d1, d2] => { results := [.lit (.bool true)], args := [d1, d2] }
  | _ => none }
def sequentialSameRow : OpenClaim := { program := "ytamolakhpcofhaa", sum := "488c343c6d481e5219c71974ef2d2b4d12ce573fd1495b77772641917ea1905d", func := "semigroup/semigrouplaw42.SequentialSame", spec := "sequentialSame", inPlace := ["internal/abi.NoEscape"], unfollowed := true, recurses := true, plainKeys := false, apart := false }
def SequentialSameSaid : Prop := sequentialSameRow.holds Try.pinned (OpenSpec.ofChange sequentialSameSpec)

/-- ITS FALSE NEIGHBOUR: 'it returns false'. Refute it at one input. -/
def sequentialSameWrong : ChangeSpec := { name := "sequentialSame", fn := fun _ => fun
  | [d1, d2] => { results := [.lit (.bool false)], args := [d1, d2] }
  | _ => none }
def SequentialSameWrongFalsely : Prop := sequentialSameRow.holds Try.pinned (OpenSpec.ofChange sequentialSameWrong)

/-- 'semigrouplaw42.SequentialChains': WHATEVER THE INPUT: true; the input reads as it did. -/
def sequentialChainsSpec : ChangeSpec := { name := "sequentialChains", fn := fun _ => fun
  | [d] => { results := [.lit (.bool true)], args := [d] }
  | _ => none }
def sequentialChainsRow : OpenClaim := { program := "ytamolakhpcofhaa", sum := "488c343c6d481e5219c71974ef2d2b4d12ce573fd1495b77772641917ea1905d", func := "semigroup/semigrouplaw42.SequentialChains", spec := "sequentialChains", inPlace := ["internal/abi.NoEscape"], unfollowed := true, recurses := true, plainKeys := false, apart := false }
def SequentialChainsSaid : Prop := sequentialChainsRow.holds Try.pinned (OpenSpec.ofChange sequentialChainsSpec)

/-- ITS FALSE NEIGHBOUR: 'it returns false'. Refute it at one input. -/
def sequentialChainsWrong : ChangeSpec := { name := "sequentialChains", fn := fun _ => fun
  | [d] => { results := [.lit (.bool false)], args := [d] }
  | _ => none }
def SequentialChainsWrongFalsely : Prop := sequentialChainsRow.holds Try.pinned (OpenSpec.ofChange sequentialChainsWrong)

/- THE SECOND FORM. 'bulk': how many values and letters a reading holds, each counted each time it is reached (what is shared counts as often as it is met; a slice's spare places count too). A statement '..UptoSaid' is the law's where the arguments, and the package variables that the reading takes, are together of bulk at most 1048576: NARROWER than '..Said'. Prove '..Said' where nothing that the law and all that it calls make is longer than what came in: it says more and counts as full. Else prove '..UptoSaid'. A law counts once. -/
mutual
def uptoBulk {H : Type} : DataW H → Nat
  | .lit (.string bytes) => bytes.length + 1
  | .lit _ => 1
  | .nil => 1
  | .ptr d => uptoBulk d + 1
  | .slice elems spare => uptoBulkAll elems + uptoBulkAll spare + 1
  | .agg parts => uptoBulkAll parts + 1
  | .iface _ d => uptoBulk d + 1
  | .map entries => uptoBulkEntries entries + 1
  | .held _ => 1
def uptoBulkAll {H : Type} : List (DataW H) → Nat
  | [] => 0
  | d :: r => uptoBulk d + uptoBulkAll r
def uptoBulkEntries {H : Type} : List (Lit × DataW H) → Nat
  | [] => 0
  | x :: r => uptoBulkEntry x + uptoBulkEntries r
def uptoBulkEntry {H : Type} : Lit × DataW H → Nat
  | (.string bytes, d) => bytes.length + uptoBulk d + 1
  | (_, d) => uptoBulk d + 1
 end
def uptoSmall : (H : Type) → List (DataW H) → Bool := fun _ ds => decide (uptoBulkAll ds ≤ 1048576)
def OpenSpec.upto (s : _root_.Go.ChangeSpec) : _root_.Go.OpenSpec := { _root_.Go.OpenSpec.ofChange s with cond := some uptoSmall }

/-- 'semigrouplaw42.SequentialNormal', WHERE WHAT IT READS IS OF BULK AT MOST 1048576: true; the input reads as it did. -/
def sequentialNormalUptoRow : OpenClaim := { program := "ytamolakhpcofhaa", sum := "488c343c6d481e5219c71974ef2d2b4d12ce573fd1495b77772641917ea1905d", func := "semigroup/semigrouplaw42.SequentialNormal", spec := "sequentialNormal", inPlace := ["internal/abi.NoEscape"], plainKeys := false, apart := false, narrowed := true }
def SequentialNormalUptoSaid : Prop := sequentialNormalUptoRow.holds Try.pinned (OpenSpec.upto sequentialNormalSpec)

/-- 'semigrouplaw42.SequentialComposes', WHERE WHAT IT READS IS OF BULK AT MOST 1048576: true; the input reads as it did. -/
def sequentialComposesUptoRow : OpenClaim := { program := "ytamolakhpcofhaa", sum := "488c343c6d481e5219c71974ef2d2b4d12ce573fd1495b77772641917ea1905d", func := "semigroup/semigrouplaw42.SequentialComposes", spec := "sequentialComposes", inPlace := ["internal/abi.NoEscape"], plainKeys := false, apart := false, narrowed := true }
def SequentialComposesUptoSaid : Prop := sequentialComposesUptoRow.holds Try.pinned (OpenSpec.upto sequentialComposesSpec)

/-- 'semigrouplaw42.SequentialEqual', WHERE WHAT IT READS IS OF BULK AT MOST 1048576: true; the input reads as it did. -/
def sequentialEqualUptoRow : OpenClaim := { program := "ytamolakhpcofhaa", sum := "488c343c6d481e5219c71974ef2d2b4d12ce573fd1495b77772641917ea1905d", func := "semigroup/semigrouplaw42.SequentialEqual", spec := "sequentialEqual", inPlace := ["internal/abi.NoEscape"], plainKeys := false, apart := false, narrowed := true }
def SequentialEqualUptoSaid : Prop := sequentialEqualUptoRow.holds Try.pinned (OpenSpec.upto sequentialEqualSpec)

/-- 'semigrouplaw42.SequentialInverse', WHERE WHAT IT READS IS OF BULK AT MOST 1048576: true; the input reads as it did. -/
def sequentialInverseUptoRow : OpenClaim := { program := "ytamolakhpcofhaa", sum := "488c343c6d481e5219c71974ef2d2b4d12ce573fd1495b77772641917ea1905d", func := "semigroup/semigrouplaw42.SequentialInverse", spec := "sequentialInverse", inPlace := ["internal/abi.NoEscape"], unfollowed := true, recurses := true, plainKeys := false, apart := false, narrowed := true }
def SequentialInverseUptoSaid : Prop := sequentialInverseUptoRow.holds Try.pinned (OpenSpec.upto sequentialInverseSpec)

/-- 'semigrouplaw42.SequentialSame', WHERE WHAT IT READS IS OF BULK AT MOST 1048576: true; the input reads as it did. -/
def sequentialSameUptoRow : OpenClaim := { program := "ytamolakhpcofhaa", sum := "488c343c6d481e5219c71974ef2d2b4d12ce573fd1495b77772641917ea1905d", func := "semigroup/semigrouplaw42.SequentialSame", spec := "sequentialSame", inPlace := ["internal/abi.NoEscape"], unfollowed := true, recurses := true, plainKeys := false, apart := false, narrowed := true }
def SequentialSameUptoSaid : Prop := sequentialSameUptoRow.holds Try.pinned (OpenSpec.upto sequentialSameSpec)

/-- 'semigrouplaw42.SequentialChains', WHERE WHAT IT READS IS OF BULK AT MOST 1048576: true; the input reads as it did. -/
def sequentialChainsUptoRow : OpenClaim := { program := "ytamolakhpcofhaa", sum := "488c343c6d481e5219c71974ef2d2b4d12ce573fd1495b77772641917ea1905d", func := "semigroup/semigrouplaw42.SequentialChains", spec := "sequentialChains", inPlace := ["internal/abi.NoEscape"], unfollowed := true, recurses := true, plainKeys := false, apart := false, narrowed := true }
def SequentialChainsUptoSaid : Prop := sequentialChainsUptoRow.holds Try.pinned (OpenSpec.upto sequentialChainsSpec)

end Rows
end Go.Proofs.Ytamolakhpcofhaa
