/-
  No cell of these rows narrows 'for every input' (looked for: loops, veiled, ifaces, maps, wideKeys, modest, calm, conditions, laid).
  DERIVED. THE GIVEN ROWS OF THIS SEAT. 7 by the template 'for every input the law returns true; each argument reads behind the call as it read before'; 0 by the template 'total and deterministic' (their statements: YtlmbcdjmdgbmjaaTotals.lean).
  GIVEN WITH THE SEED: the statements are not yours to turn. If you find one false, say at which input.
  Laid BY PROGRAM, IN A SANDBOX (cutbox-rows.mjs): the forced cells as the released guide's own fill.sh prints them over the translation 6bd3f2e0d9e4cb8a… (all of the seat's roots in one cut). By AI agents, Wed Nov 11 2026. No macro, syntax, notation, axiom, sorry.
-/
import Derived.Test.YtlmbcdjmdgbmjaaChecked
import GoSem.Claim
import GoSem.ClaimJoined
import GoSem.ClaimMapViews
import Derived.JoinedTies
import Derived.KernelRfl
namespace Go.Proofs.Ytlmbcdjmdgbmjaa
/- THE CELL 'sum', in the pinned program and in every row, IS THE sha256 OF THE DUMP (.gsa) THAT YtlmbcdjmdgbmjaaProg.lean LOADS. Nothing in Lean hashes anything: it is a label: what it is worth is what the hold of that sum in a sandbox is worth. -/
noncomputable def Try.pinned : Pinned := { name := "ytlmbcdjmdgbmjaa", sum := "6bd3f2e0d9e4cb8a8560cb8431b926e40306cf40a224128adf57631422f77362", checked := Try.checked }
namespace Rows
def none {H : Type} : Left H := { results := [], args := [] }

/-- 'semigrouplaw39.TemporalRaw': WHATEVER THE INPUT: true; the input reads as it did. -/
def temporalRawSpec : ChangeSpec := { name := "temporalRaw", fn := fun _ => fun
  | [d1, d2, d3, d4] => { results := [.lit (.bool true)], args := [d1, d2, d3, d4] }
  | _ => none }
def temporalRawRow : OpenClaim := { program := "ytlmbcdjmdgbmjaa", sum := "6bd3f2e0d9e4cb8a8560cb8431b926e40306cf40a224128adf57631422f77362", func := "semigroup/semigrouplaw39.TemporalRaw", spec := "temporalRaw", plainKeys := false, apart := false }
def TemporalRawSaid : Prop := temporalRawRow.holds Try.pinned (OpenSpec.ofChange temporalRawSpec)

/-- ITS FALSE NEIGHBOUR: 'it returns false'. Refute it at one input. -/
def temporalRawWrong : ChangeSpec := { name := "temporalRaw", fn := fun _ => fun
  | [d1, d2, d3, d4] => { results := [.lit (.bool false)], args := [d1, d2, d3, d4] }
  | _ => none }
def TemporalRawWrongFalsely : Prop := temporalRawRow.holds Try.pinned (OpenSpec.ofChange temporalRawWrong)

/-- 'semigrouplaw39.TemporalUnfolds': WHATEVER THE INPUT: true; the input reads as it did. -/
def temporalUnfoldsSpec : ChangeSpec := { name := "temporalUnfolds", fn := fun _ => fun
  | [d1, d2] => { results := [.lit (.bool true)], args := [d1, d2] }
  | _ => none }
def temporalUnfoldsRow : OpenClaim := { program := "ytlmbcdjmdgbmjaa", sum := "6bd3f2e0d9e4cb8a8560cb8431b926e40306cf40a224128adf57631422f77362", func := "semigroup/semigrouplaw39.TemporalUnfolds", spec := "temporalUnfolds", plainKeys := false, apart := false }
def TemporalUnfoldsSaid : Prop := temporalUnfoldsRow.holds Try.pinned (OpenSpec.ofChange temporalUnfoldsSpec)

/-- ITS FALSE NEIGHBOUR: 'it returns false'. Refute it at one input. -/
def temporalUnfoldsWrong : ChangeSpec := { name := "temporalUnfolds", fn := fun _ => fun
  | [d1, d2] => { results := [.lit (.bool false)], args := [d1, d2] }
  | _ => none }
def TemporalUnfoldsWrongFalsely : Prop := temporalUnfoldsRow.holds Try.pinned (OpenSpec.ofChange temporalUnfoldsWrong)

/-- 'semigrouplaw39.TemporalOf': WHATEVER THE INPUT: true; the input reads as it did. -/
def temporalOfSpec : ChangeSpec := { name := "temporalOf", fn := fun _ => fun
  | [d] => { results := [.lit (.bool true)], args := [d] }
  | _ => none }
def temporalOfRow : OpenClaim := { program := "ytlmbcdjmdgbmjaa", sum := "6bd3f2e0d9e4cb8a8560cb8431b926e40306cf40a224128adf57631422f77362", func := "semigroup/semigrouplaw39.TemporalOf", spec := "temporalOf", plainKeys := false, apart := false }
def TemporalOfSaid : Prop := temporalOfRow.holds Try.pinned (OpenSpec.ofChange temporalOfSpec)

/-- ITS FALSE NEIGHBOUR: 'it returns false'. Refute it at one input. -/
def temporalOfWrong : ChangeSpec := { name := "temporalOf", fn := fun _ => fun
  | [d] => { results := [.lit (.bool false)], args := [d] }
  | _ => none }
def TemporalOfWrongFalsely : Prop := temporalOfRow.holds Try.pinned (OpenSpec.ofChange temporalOfWrong)

/-- 'semigrouplaw39.TemporalErrors': WHATEVER THE INPUT: true; the input reads as it did. -/
def temporalErrorsSpec : ChangeSpec := { name := "temporalErrors", fn := fun _ => fun
  | [d1, d2] => { results := [.lit (.bool true)], args := [d1, d2] }
  | _ => none }
def temporalErrorsRow : OpenClaim := { program := "ytlmbcdjmdgbmjaa", sum := "6bd3f2e0d9e4cb8a8560cb8431b926e40306cf40a224128adf57631422f77362", func := "semigroup/semigrouplaw39.TemporalErrors", spec := "temporalErrors", plainKeys := false, apart := false }
def TemporalErrorsSaid : Prop := temporalErrorsRow.holds Try.pinned (OpenSpec.ofChange temporalErrorsSpec)

/-- ITS FALSE NEIGHBOUR: 'it returns false'. Refute it at one input. -/
def temporalErrorsWrong : ChangeSpec := { name := "temporalErrors", fn := fun _ => fun
  | [d1, d2] => { results := [.lit (.bool false)], args := [d1, d2] }
  | _ => none }
def TemporalErrorsWrongFalsely : Prop := temporalErrorsRow.holds Try.pinned (OpenSpec.ofChange temporalErrorsWrong)

/-- 'semigrouplaw39.TemporalWords': WHATEVER THE INPUT: true; the input reads as it did. -/
def temporalWordsSpec : ChangeSpec := { name := "temporalWords", fn := fun _ => fun
  | [d1, d2] => { results := [.lit (.bool true)], args := [d1, d2] }
  | _ => none }
def temporalWordsRow : OpenClaim := { program := "ytlmbcdjmdgbmjaa", sum := "6bd3f2e0d9e4cb8a8560cb8431b926e40306cf40a224128adf57631422f77362", func := "semigroup/semigrouplaw39.TemporalWords", spec := "temporalWords", plainKeys := false, apart := false }
def TemporalWordsSaid : Prop := temporalWordsRow.holds Try.pinned (OpenSpec.ofChange temporalWordsSpec)

/-- ITS FALSE NEIGHBOUR: 'it returns false'. Refute it at one input. -/
def temporalWordsWrong : ChangeSpec := { name := "temporalWords", fn := fun _ => fun
  | [d1, d2] => { results := [.lit (.bool false)], args := [d1, d2] }
  | _ => none }
def TemporalWordsWrongFalsely : Prop := temporalWordsRow.holds Try.pinned (OpenSpec.ofChange temporalWordsWrong)

/-- 'semigrouplaw39.TemporalMade': WHATEVER THE INPUT: true; the input reads as it did. -/
def temporalMadeSpec : ChangeSpec := { name := "temporalMade", fn := fun _ => fun
  | [d1, d2, d3, d4] => { results := [.lit (.bool true)], args := [d1, d2, d3, d4] }
  | _ => none }
def temporalMadeRow : OpenClaim := { program := "ytlmbcdjmdgbmjaa", sum := "6bd3f2e0d9e4cb8a8560cb8431b926e40306cf40a224128adf57631422f77362", func := "semigroup/semigrouplaw39.TemporalMade", spec := "temporalMade", unfollowed := true, recurses := true, plainKeys := false, apart := false }
def TemporalMadeSaid : Prop := temporalMadeRow.holds Try.pinned (OpenSpec.ofChange temporalMadeSpec)

/-- ITS FALSE NEIGHBOUR: 'it returns false'. Refute it at one input. -/
def temporalMadeWrong : ChangeSpec := { name := "temporalMade", fn := fun _ => fun
  | [d1, d2, d3, d4] => { results := [.lit (.bool false)], args := [d1, d2, d3, d4] }
  | _ => none }
def TemporalMadeWrongFalsely : Prop := temporalMadeRow.holds Try.pinned (OpenSpec.ofChange temporalMadeWrong)

/-- 'semigrouplaw39.TemporalAgrees': WHATEVER THE INPUT: true; the input reads as it did. -/
def temporalAgreesSpec : ChangeSpec := { name := "temporalAgrees", fn := fun _ => fun
  | [d1, d2] => { results := [.lit (.bool true)], args := [d1, d2] }
  | _ => none }
def temporalAgreesRow : OpenClaim := { program := "ytlmbcdjmdgbmjaa", sum := "6bd3f2e0d9e4cb8a8560cb8431b926e40306cf40a224128adf57631422f77362", func := "semigroup/semigrouplaw39.TemporalAgrees", spec := "temporalAgrees", unfollowed := true, recurses := true, plainKeys := false, apart := false }
def TemporalAgreesSaid : Prop := temporalAgreesRow.holds Try.pinned (OpenSpec.ofChange temporalAgreesSpec)

/-- ITS FALSE NEIGHBOUR: 'it returns false'. Refute it at one input. -/
def temporalAgreesWrong : ChangeSpec := { name := "temporalAgrees", fn := fun _ => fun
  | [d1, d2] => { results := [.lit (.bool false)], args := [d1, d2] }
  | _ => none }
def TemporalAgreesWrongFalsely : Prop := temporalAgreesRow.holds Try.pinned (OpenSpec.ofChange temporalAgreesWrong)

/- THE SECOND FORM. 'bulk': how many values and letters a reading holds, each counted each time it is reached (what is shared counts as often as it is met; a slice's spare places count too). A statement '..UptoSaid' is the law's where the arguments, and the package variables that the reading takes, are together of bulk at most 1048576: NARROWER than '..Said'. Prove '..Said' where nothing that the law and all that it calls make is longer than what came in: it says more and counts as full. Else prove '..UptoSaid'. A law counts once. -/
mutual
def uptoBulk {H : Type} : DataW H → Nat
  | .lit (.string bytes) => bytes.length + 1
  | .lit _ => 1
  | .nil => 1
  | .ptr d => uptoBulk d + 1
  | .slice elems spare => uptoBulkAll elems + uptoBulkAll spare + 1
  | .agg parts => uptoBulkAll parts + 1
  | .iface _ d => uptoBulk d + 1
  | .map entries => uptoBulkEntries entries + 1
  | .held _ => 1
def uptoBulkAll {H : Type} : List (DataW H) → Nat
  | [] => 0
  | d :: r => uptoBulk d + uptoBulkAll r
def uptoBulkEntries {H : Type} : List (Lit × DataW H) → Nat
  | [] => 0
  | x :: r => uptoBulkEntry x + uptoBulkEntries r
def uptoBulkEntry {H : Type} : Lit × DataW H → Nat
  | (.string bytes, d) => bytes.length + uptoBulk d + 1
  | (_, d) => uptoBulk d + 1
 end
def uptoSmall : (H : Type) → List (DataW H) → Bool := fun _ ds => decide (uptoBulkAll ds ≤ 1048576)
def OpenSpec.upto (s : _root_.Go.ChangeSpec) : _root_.Go.OpenSpec := { _root_.Go.OpenSpec.ofChange s with cond := some uptoSmall }

/-- 'semigrouplaw39.TemporalRaw', WHERE WHAT IT READS IS OF BULK AT MOST 1048576: true; the input reads as it did. -/
def temporalRawUptoRow : OpenClaim := { program := "ytlmbcdjmdgbmjaa", sum := "6bd3f2e0d9e4cb8a8560cb8431b926e40306cf40a224128adf57631422f77362", func := "semigroup/semigrouplaw39.TemporalRaw", spec := "temporalRaw", plainKeys := false, apart := false, narrowed := true }
def TemporalRawUptoSaid : Prop := temporalRawUptoRow.holds Try.pinned (OpenSpec.upto temporalRawSpec)

/-- 'semigrouplaw39.TemporalUnfolds', WHERE WHAT IT READS IS OF BULK AT MOST 1048576: true; the input reads as it did. -/
def temporalUnfoldsUptoRow : OpenClaim := { program := "ytlmbcdjmdgbmjaa", sum := "6bd3f2e0d9e4cb8a8560cb8431b926e40306cf40a224128adf57631422f77362", func := "semigroup/semigrouplaw39.TemporalUnfolds", spec := "temporalUnfolds", plainKeys := false, apart := false, narrowed := true }
def TemporalUnfoldsUptoSaid : Prop := temporalUnfoldsUptoRow.holds Try.pinned (OpenSpec.upto temporalUnfoldsSpec)

/-- 'semigrouplaw39.TemporalOf', WHERE WHAT IT READS IS OF BULK AT MOST 1048576: true; the input reads as it did. -/
def temporalOfUptoRow : OpenClaim := { program := "ytlmbcdjmdgbmjaa", sum := "6bd3f2e0d9e4cb8a8560cb8431b926e40306cf40a224128adf57631422f77362", func := "semigroup/semigrouplaw39.TemporalOf", spec := "temporalOf", plainKeys := false, apart := false, narrowed := true }
def TemporalOfUptoSaid : Prop := temporalOfUptoRow.holds Try.pinned (OpenSpec.upto temporalOfSpec)

/-- 'semigrouplaw39.TemporalErrors', WHERE WHAT IT READS IS OF BULK AT MOST 1048576: true; the input reads as it did. -/
def temporalErrorsUptoRow : OpenClaim := { program := "ytlmbcdjmdgbmjaa", sum := "6bd3f2e0d9e4cb8a8560cb8431b926e40306cf40a224128adf57631422f77362", func := "semigroup/semigrouplaw39.TemporalErrors", spec := "temporalErrors", plainKeys := false, apart := false, narrowed := true }
def TemporalErrorsUptoSaid : Prop := temporalErrorsUptoRow.holds Try.pinned (OpenSpec.upto temporalErrorsSpec)

/-- 'semigrouplaw39.TemporalWords', WHERE WHAT IT READS IS OF BULK AT MOST 1048576: true; the input reads as it did. -/
def temporalWordsUptoRow : OpenClaim := { program := "ytlmbcdjmdgbmjaa", sum := "6bd3f2e0d9e4cb8a8560cb8431b926e40306cf40a224128adf57631422f77362", func := "semigroup/semigrouplaw39.TemporalWords", spec := "temporalWords", plainKeys := false, apart := false, narrowed := true }
def TemporalWordsUptoSaid : Prop := temporalWordsUptoRow.holds Try.pinned (OpenSpec.upto temporalWordsSpec)

/-- 'semigrouplaw39.TemporalMade', WHERE WHAT IT READS IS OF BULK AT MOST 1048576: true; the input reads as it did. -/
def temporalMadeUptoRow : OpenClaim := { program := "ytlmbcdjmdgbmjaa", sum := "6bd3f2e0d9e4cb8a8560cb8431b926e40306cf40a224128adf57631422f77362", func := "semigroup/semigrouplaw39.TemporalMade", spec := "temporalMade", unfollowed := true, recurses := true, plainKeys := false, apart := false, narrowed := true }
def TemporalMadeUptoSaid : Prop := temporalMadeUptoRow.holds Try.pinned (OpenSpec.upto temporalMadeSpec)

/-- 'semigrouplaw39.TemporalAgrees', WHERE WHAT IT READS IS OF BULK AT MOST 1048576: true; the input reads as it did. -/
def temporalAgreesUptoRow : OpenClaim := { program := "ytlmbcdjmdgbmjaa", sum := "6bd3f2e0d9e4cb8a8560cb8431b926e40306cf40a224128adf57631422f77362", func := "semigroup/semigrouplaw39.TemporalAgrees", spec := "temporalAgrees", unfollowed := true, recurses := true, plainKeys := false, apart := false, narrowed := true }
def TemporalAgreesUptoSaid : Prop := temporalAgreesUptoRow.holds Try.pinned (OpenSpec.upto temporalAgreesSpec)

end Rows
end Go.Proofs.Ytlmbcdjmdgbmjaa
