/-
  No cell of these rows narrows 'for every input' (looked for: loops, veiled, ifaces, maps, wideKeys, modest, calm, conditions, laid).
  DERIVED. THE GIVEN ROWS OF THIS SEAT. 4 by the template 'for every input the law returns true; each argument reads behind the call as it read before'; 0 by the template 'total and deterministic' (their statements: YtfpaagilejdghaaTotals.lean).
  GIVEN WITH THE SEED: the statements are not yours to turn. If you find one false, say at which input.
  Laid BY PROGRAM, IN A SANDBOX (cutbox-rows.mjs): the forced cells as the released guide's own fill.sh prints them over the translation ebc320b4dc0e21c3… (all of the seat's roots in one cut). By AI agents, Wed Nov 11 2026. No macro, syntax, notation, axiom, sorry.
-/
import Derived.Test.YtfpaagilejdghaaChecked
import GoSem.Claim
import GoSem.ClaimJoined
import GoSem.ClaimMapViews
import Derived.JoinedTies
import Derived.KernelRfl
namespace Go.Proofs.Ytfpaagilejdghaa
/- THE CELL 'sum', in the pinned program and in every row, IS THE sha256 OF THE DUMP (.gsa) THAT YtfpaagilejdghaaProg.lean LOADS. Nothing in Lean hashes anything: it is a label: what it is worth is what the hold of that sum in a sandbox is worth. -/
noncomputable def Try.pinned : Pinned := { name := "ytfpaagilejdghaa", sum := "ebc320b4dc0e21c33ed26889eda9d81e44a1d5d4d85b2b59144b28911fdfe66c", checked := Try.checked }
namespace Rows
def none {H : Type} : Left H := { results := [], args := [] }

/-- 'frisketlaw15.UprightTells': WHATEVER THE INPUT: true; the input reads as it did. -/
def uprightTellsSpec : ChangeSpec := { name := "uprightTells", fn := fun _ => fun
  | [d1, d2, d3] => { results := [.lit (.bool true)], args := [d1, d2, d3] }
  | _ => none }
def uprightTellsRow : OpenClaim := { program := "ytfpaagilejdghaa", sum := "ebc320b4dc0e21c33ed26889eda9d81e44a1d5d4d85b2b59144b28911fdfe66c", func := "frisket/frisketlaw15.UprightTells", spec := "uprightTells", apart := false }
def UprightTellsSaid : Prop := uprightTellsRow.holds Try.pinned (OpenSpec.ofChange uprightTellsSpec)

/-- ITS FALSE NEIGHBOUR: 'it returns false'. Refute it at one input. -/
def uprightTellsWrong : ChangeSpec := { name := "uprightTells", fn := fun _ => fun
  | [d1, d2, d3] => { results := [.lit (.bool false)], args := [d1, d2, d3] }
  | _ => none }
def UprightTellsWrongFalsely : Prop := uprightTellsRow.holds Try.pinned (OpenSpec.ofChange uprightTellsWrong)

/-- 'frisketlaw15.UprightRuns': WHATEVER THE INPUT: true; the input reads as it did. -/
def uprightRunsSpec : ChangeSpec := { name := "uprightRuns", fn := fun _ => fun
  | [d] => { results := [.lit (.bool true)], args := [d] }
  | _ => none }
def uprightRunsRow : OpenClaim := { program := "ytfpaagilejdghaa", sum := "ebc320b4dc0e21c33ed26889eda9d81e44a1d5d4d85b2b59144b28911fdfe66c", func := "frisket/frisketlaw15.UprightRuns", spec := "uprightRuns", apart := false }
def UprightRunsSaid : Prop := uprightRunsRow.holds Try.pinned (OpenSpec.ofChange uprightRunsSpec)

/-- ITS FALSE NEIGHBOUR: 'it returns false'. Refute it at one input. -/
def uprightRunsWrong : ChangeSpec := { name := "uprightRuns", fn := fun _ => fun
  | [d] => { results := [.lit (.bool false)], args := [d] }
  | _ => none }
def UprightRunsWrongFalsely : Prop := uprightRunsRow.holds Try.pinned (OpenSpec.ofChange uprightRunsWrong)

/-- 'frisketlaw15.UprightBoth': WHATEVER THE INPUT: true; the input reads as it did. -/
def uprightBothSpec : ChangeSpec := { name := "uprightBoth", fn := fun _ => fun
  | [d1, d2] => { results := [.lit (.bool true)], args := [d1, d2] }
  | _ => none }
def uprightBothRow : OpenClaim := { program := "ytfpaagilejdghaa", sum := "ebc320b4dc0e21c33ed26889eda9d81e44a1d5d4d85b2b59144b28911fdfe66c", func := "frisket/frisketlaw15.UprightBoth", spec := "uprightBoth", apart := false }
def UprightBothSaid : Prop := uprightBothRow.holds Try.pinned (OpenSpec.ofChange uprightBothSpec)

/-- ITS FALSE NEIGHBOUR: 'it returns false'. Refute it at one input. -/
def uprightBothWrong : ChangeSpec := { name := "uprightBoth", fn := fun _ => fun
  | [d1, d2] => { results := [.lit (.bool false)], args := [d1, d2] }
  | _ => none }
def UprightBothWrongFalsely : Prop := uprightBothRow.holds Try.pinned (OpenSpec.ofChange uprightBothWrong)

/-- 'frisketlaw15.UprightRows': WHATEVER THE INPUT: true; the input reads as it did. -/
def uprightRowsSpec : ChangeSpec := { name := "uprightRows", fn := fun _ => fun
  | [d1, d2, d3] => { results := [.lit (.bool true)], args := [d1, d2, d3] }
  | _ => none }
def uprightRowsRow : OpenClaim := { program := "ytfpaagilejdghaa", sum := "ebc320b4dc0e21c33ed26889eda9d81e44a1d5d4d85b2b59144b28911fdfe66c", func := "frisket/frisketlaw15.UprightRows", spec := "uprightRows", apart := false }
def UprightRowsSaid : Prop := uprightRowsRow.holds Try.pinned (OpenSpec.ofChange uprightRowsSpec)

/-- ITS FALSE NEIGHBOUR: 'it returns false'. Refute it at one input. -/
def uprightRowsWrong : ChangeSpec := { name := "uprightRows", fn := fun _ => fun
  | [d1, d2, d3] => { results := [.lit (.bool false)], args := [d1, d2, d3] }
  | _ => none }
def UprightRowsWrongFalsely : Prop := uprightRowsRow.holds Try.pinned (OpenSpec.ofChange uprightRowsWrong)

/- THE SECOND FORM. 'bulk': how many values and letters a reading holds, each counted each time it is reached (what is shared counts as often as it is met; a slice's spare places count too). A statement '..UptoSaid' is the law's where the arguments, and the package variables that the reading takes, are together of bulk at most 1048576: NARROWER than '..Said'. Prove '..Said' where nothing that the law and all that it calls make is longer than what came in: it says more and counts as full. Else prove '..UptoSaid'. A law counts once. -/
mutual
def uptoBulk {H : Type} : DataW H → Nat
  | .lit (.string bytes) => bytes.length + 1
  | .lit _ => 1
  | .nil => 1
  | .ptr d => uptoBulk d + 1
  | .slice elems spare => uptoBulkAll elems + uptoBulkAll spare + 1
  | .agg parts => uptoBulkAll parts + 1
  | .iface _ d => uptoBulk d + 1
  | .map entries => uptoBulkEntries entries + 1
  | .held _ => 1
def uptoBulkAll {H : Type} : List (DataW H) → Nat
  | [] => 0
  | d :: r => uptoBulk d + uptoBulkAll r
def uptoBulkEntries {H : Type} : List (Lit × DataW H) → Nat
  | [] => 0
  | x :: r => uptoBulkEntry x + uptoBulkEntries r
def uptoBulkEntry {H : Type} : Lit × DataW H → Nat
  | (.string bytes, d) => bytes.length + uptoBulk d + 1
  | (_, d) => uptoBulk d + 1
 end
def uptoSmall : (H : Type) → List (DataW H) → Bool := fun _ ds => decide (uptoBulkAll ds ≤ 1048576)
def OpenSpec.upto (s : _root_.Go.ChangeSpec) : _root_.Go.OpenSpec := { _root_.Go.OpenSpec.ofChange s with cond := some uptoSmall }

/-- 'frisketlaw15.UprightTells', WHERE WHAT IT READS IS OF BULK AT MOST 1048576: true; the input reads as it did. -/
def uprightTellsUptoRow : OpenClaim := { program := "ytfpaagilejdghaa", sum := "ebc320b4dc0e21c33ed26889eda9d81e44a1d5d4d85b2b59144b28911fdfe66c", func := "frisket/frisketlaw15.UprightTells", spec := "uprightTells", apart := false, narrowed := true }
def UprightTellsUptoSaid : Prop := uprightTellsUptoRow.holds Try.pinned (OpenSpec.upto uprightTellsSpec)

/-- 'frisketlaw15.UprightRuns', WHERE WHAT IT READS IS OF BULK AT MOST 1048576: true; the input reads as it did. -/
def uprightRunsUptoRow : OpenClaim := { program := "ytfpaagilejdghaa", sum := "ebc320b4dc0e21c33ed26889eda9d81e44a1d5d4d85b2b59144b28911fdfe66c", func := "frisket/frisketlaw15.UprightRuns", spec := "uprightRuns", apart := false, narrowed := true }
def UprightRunsUptoSaid : Prop := uprightRunsUptoRow.holds Try.pinned (OpenSpec.upto uprightRunsSpec)

/-- 'frisketlaw15.UprightBoth', WHERE WHAT IT READS IS OF BULK AT MOST 1048576: true; the input reads as it did. -/
def uprightBothUptoRow : OpenClaim := { program := "ytfpaagilejdghaa", sum := "ebc320b4dc0e21c33ed26889eda9d81e44a1d5d4d85b2b59144b28911fdfe66c", func := "frisket/frisketlaw15.UprightBoth", spec := "uprightBoth", apart := false, narrowed := true }
def UprightBothUptoSaid : Prop := uprightBothUptoRow.holds Try.pinned (OpenSpec.upto uprightBothSpec)

/-- 'frisketlaw15.UprightRows', WHERE WHAT IT READS IS OF BULK AT MOST 1048576: true; the input reads as it did. -/
def uprightRowsUptoRow : OpenClaim := { program := "ytfpaagilejdghaa", sum := "ebc320b4dc0e21c33ed26889eda9d81e44a1d5d4d85b2b59144b28911fdfe66c", func := "frisket/frisketlaw15.UprightRows", spec := "uprightRows", apart := false, narrowed := true }
def UprightRowsUptoSaid : Prop := uprightRowsUptoRow.holds Try.pinned (OpenSpec.upto uprightRowsSpec)

end Rows
end Go.Proofs.Ytfpaagilejdghaa
