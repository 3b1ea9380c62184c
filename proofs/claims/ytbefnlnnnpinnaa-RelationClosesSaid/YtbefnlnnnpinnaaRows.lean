/-
  No cell of these rows narrows 'for every input' (looked for: loops, veiled, ifaces, maps, wideKeys, modest, calm, conditions, laid).
  DERIVED. THE GIVEN ROWS OF THIS SEAT. 2 by the template 'for every input the law returns true; each argument reads behind the call as it read before'; 0 by the template 'total and deterministic' (their statements: YtbefnlnnnpinnaaTotals.lean).
  GIVEN WITH THE SEED: the statements are not yours to turn. If you find one false, say at which input.
  Laid BY PROGRAM, IN A SANDBOX (cutbox-rows.mjs): the forced cells as the released guide's own fill.sh prints them over the translation 82927e42806a3ea8… (all of the seat's roots in one cut). By AI agents, Wed Nov 11 2026. No macro, syntax, notation, axiom, sorry.
-/
import Derived.Test.YtbefnlnnnpinnaaChecked
import GoSem.Claim
import GoSem.ClaimJoined
import GoSem.ClaimMapViews
import Derived.JoinedTies
import Derived.KernelRfl
namespace Go.Proofs.Ytbefnlnnnpinnaa
/- THE CELL 'sum', in the pinned program and in every row, IS THE sha256 OF THE DUMP (.gsa) THAT YtbefnlnnnpinnaaProg.lean LOADS. Nothing in Lean hashes anything: it is a label: what it is worth is what the hold of that sum in a sandbox is worth. -/
noncomputable def Try.pinned : Pinned := { name := "ytbefnlnnnpinnaa", sum := "82927e42806a3ea8abf7b1a964cc505a690c1368665e5cd172cf02be8f8544ba", checked := Try.checked }
namespace Rows
def none {H : Type} : Left H := { results := [], args := [] }

/-- 'semigrouplaw02.RelationCloses': WHATEVER THE INPUT: true; the input reads as it did. -/
def relationClosesSpec : ChangeSpec := { name := "relationCloses", fn := fun _ => fun
  | [d] => { results := [.lit (.bool true)], args := [d] }
  | _ => none }
def relationClosesRow : OpenClaim := { program := "ytbefnlnnnpinnaa", sum := "82927e42806a3ea8abf7b1a964cc505a690c1368665e5cd172cf02be8f8544ba", func := "semigroup/semigrouplaw02.RelationCloses", spec := "relationCloses", apart := false }
def RelationClosesSaid : Prop := relationClosesRow.holds Try.pinned (OpenSpec.ofChange relationClosesSpec)

/-- ITS FALSE NEIGHBOUR: 'it returns false'. Refute it at one input. -/
def relationClosesWrong : ChangeSpec := { name := "relationCloses", fn := fun _ => fun
  | [d] => { results := [.lit (.bool false)], args := [d] }
  | _ => none }
def RelationClosesWrongFalsely : Prop := relationClosesRow.holds Try.pinned (OpenSpec.ofChange relationClosesWrong)

/-- 'semigrouplaw02.RelationValid': WHATEVER THE INPUT: true; the input reads as it did. -/
def relationValidSpec : ChangeSpec := { name := "relationValid", fn := fun _ => fun
  | [d1, d2] => { results := [.lit (.bool true)], args := [d1, d2] }
  | _ => none }
def relationValidRow : OpenClaim := { program := "ytbefnlnnnpinnaa", sum := "82927e42806a3ea8abf7b1a964cc505a690c1368665e5cd172cf02be8f8544ba", func := "semigroup/semigrouplaw02.RelationValid", spec := "relationValid", apart := false }
def RelationValidSaid : Prop := relationValidRow.holds Try.pinned (OpenSpec.ofChange relationValidSpec)

/-- ITS FALSE NEIGHBOUR: 'it returns false'. Refute it at one input. -/
def relationValidWrong : ChangeSpec := { name := "relationValid", fn := fun _ => fun
  | [d1, d2] => { results := [.lit (.bool false)], args := [d1, d2] }
  | _ => none }
def RelationValidWrongFalsely : Prop := relationValidRow.holds Try.pinned (OpenSpec.ofChange relationValidWrong)

/- THE SECOND FORM. 'bulk': how many values and letters a reading holds, each counted each time it is reached (what is shared counts as often as it is met; a slice's spare places count too). A statement '..UptoSaid' is the law's where the arguments, and the package variables that the reading takes, are together of bulk at most 1048576: NARROWER than '..Said'. Prove '..Said' where nothing that the law and all that it calls make is longer than what came in: it says more and counts as full. Else prove '..UptoSaid'. A law counts once. -/
mutual
def uptoBulk {H : Type} : DataW H → Nat
  | .lit (.string bytes) => bytes.length + 1
  | .lit _ => 1
  | .nil => 1
  | .ptr d => uptoBulk d + 1
  | .slice elems spare => uptoBulkAll elems + uptoBulkAll spare + 1
  | .agg parts => uptoBulkAll parts + 1
  | .iface _ d => uptoBulk d + 1
  | .map entries => uptoBulkEntries entries + 1
  | .held _ => 1
def uptoBulkAll {H : Type} : List (DataW H) → Nat
  | [] => 0
  | d :: r => uptoBulk d + uptoBulkAll r
def uptoBulkEntries {H : Type} : List (Lit × DataW H) → Nat
  | [] => 0
  | x :: r => uptoBulkEntry x + uptoBulkEntries r
def uptoBulkEntry {H : Type} : Lit × DataW H → Nat
  | (.string bytes, d) => bytes.length + uptoBulk d + 1
  | (_, d) => uptoBulk d + 1
 end
def uptoSmall : (H : Type) → List (DataW H) → Bool := fun _ ds => decide (uptoBulkAll ds ≤ 1048576)
def OpenSpec.upto (s : _root_.Go.ChangeSpec) : _root_.Go.OpenSpec := { _root_.Go.OpenSpec.ofChange s with cond := some uptoSmall }

/-- 'semigrouplaw02.RelationCloses', WHERE WHAT IT READS IS OF BULK AT MOST 1048576: true; the input reads as it did. -/
def relationClosesUptoRow : OpenClaim := { program := "ytbefnlnnnpinnaa", sum := "82927e42806a3ea8abf7b1a964cc505a690c1368665e5cd172cf02be8f8544ba", func := "semigroup/semigrouplaw02.RelationCloses", spec := "relationCloses", apart := false, narrowed := true }
def RelationClosesUptoSaid : Prop := relationClosesUptoRow.holds Try.pinned (OpenSpec.upto relationClosesSpec)

/-- 'semigrouplaw02.RelationValid', WHERE WHAT IT READS IS OF BULK AT MOST 1048576: true; the input reads as it did. -/
def relationValidUptoRow : OpenClaim := { program := "ytbefnlnnnpinnaa", sum := "82927e42806a3ea8abf7b1a964cc505a690c1368665e5cd172cf02be8f8544ba", func := "semigroup/semigrouplaw02.RelationValid", spec := "relationValid", apart := false, narrowed := true }
def RelationValidUptoSaid : Prop := relationValidUptoRow.holds Try.pinned (OpenSpec.upto relationValidSpec)

end Rows
end Go.Proofs.Ytbefnlnnnpinnaa
