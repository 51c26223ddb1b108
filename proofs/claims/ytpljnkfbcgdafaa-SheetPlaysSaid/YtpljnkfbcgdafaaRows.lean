/-
  No cell of these rows narrows 'for every input' (looked for: loops, veiled, ifaces, maps, wideKeys, modest, calm, conditions, laid).
  DERIVED. THE GIVEN ROWS OF THIS SEAT. 4 by the template 'for every input the law returns true; each argument reads behind the call as it read before'; 0 by the template 'total and deterministic' (their statements: YtpljnkfbcgdafaaTotals.lean).
  GIVEN WITH THE SEED: the statements are not yours to turn. If you find one false, say at which input.
  Laid BY PROGRAM, IN A SANDBOX (cutbox-rows.mjs): the forced cells as the released guide's own fill.sh prints them over the translation 54d4db9b5b6185c4… (all of the seat's roots in one cut). By AI agents, Wed Nov 11 2026. No macro, syntax, notation, axiom, sorry.
-/
import Derived.Test.YtpljnkfbcgdafaaChecked
import GoSem.Claim
import GoSem.ClaimJoined
import GoSem.ClaimMapViews
import Derived.JoinedTies
import Derived.KernelRfl
namespace Go.Proofs.Ytpljnkfbcgdafaa
/- THE CELL 'sum', in the pinned program and in every row, IS THE sha256 OF THE DUMP (.gsa) THAT YtpljnkfbcgdafaaProg.lean LOADS. Nothing in Lean hashes anything: it is a label: what it is worth is what the hold of that sum in a sandbox is worth. -/
noncomputable def Try.pinned : Pinned := { name := "ytpljnkfbcgdafaa", sum := "54d4db9b5b6185c4c40c15838d3a0a99397dd088f62000eaa947512a5bce643f", checked := Try.checked }
namespace Rows
def none {H : Type} : Left H := { results := [], args := [] }

/-- 'frisketlaw20.SheetPlays': WHATEVER THE INPUT: true; the input reads as it did. -/
def sheetPlaysSpec : ChangeSpec := { name := "sheetPlays", fn := fun _ => fun
  | [d1, d2, d3] => { results := [.lit (.bool true)], args := [d1, d2, d3] }
  | _ => none }
def sheetPlaysRow : OpenClaim := { program := "ytpljnkfbcgdafaa", sum := "54d4db9b5b6185c4c40c15838d3a0a99397dd088f62000eaa947512a5bce643f", func := "frisket/frisketlaw20.SheetPlays", spec := "sheetPlays", unfollowed := true, recurses := true, plainKeys := false, apart := false }
def SheetPlaysSaid : Prop := sheetPlaysRow.holds Try.pinned (OpenSpec.ofChange sheetPlaysSpec)

/-- ITS FALSE NEIGHBOUR: 'it returns false'. Refute it at one input. -/
def sheetPlaysWrong : ChangeSpec := { name := "sheetPlays", fn := fun _ => fun
  | [d1, d2, d3] => { results := [.lit (.bool false)], args := [d1, d2, d3] }
  | _ => none }
def SheetPlaysWrongFalsely : Prop := sheetPlaysRow.holds Try.pinned (OpenSpec.ofChange sheetPlaysWrong)

/-- 'frisketlaw20.SheetNoTwo': WHATEVER THE INPUT: true; the input reads as it did. -/
def sheetNoTwoSpec : ChangeSpec := { name := "sheetNoTwo", fn := fun _ => fun
  | [d1, d2, d3] => { results := [.lit (.bool true)], args := [d1, d2, d3] }
  | _ => none }
def sheetNoTwoRow : OpenClaim := { program := "ytpljnkfbcgdafaa", sum := "54d4db9b5b6185c4c40c15838d3a0a99397dd088f62000eaa947512a5bce643f", func := "frisket/frisketlaw20.SheetNoTwo", spec := "sheetNoTwo", unfollowed := true, recurses := true, plainKeys := false, apart := false }
def SheetNoTwoSaid : Prop := sheetNoTwoRow.holds Try.pinned (OpenSpec.ofChange sheetNoTwoSpec)

/-- ITS FALSE NEIGHBOUR: 'it returns false'. Refute it at one input. -/
def sheetNoTwoWrong : ChangeSpec := { name := "sheetNoTwo", fn := fun _ => fun
  | [d1, d2, d3] => { results := [.lit (.bool false)], args := [d1, d2, d3] }
  | _ => none }
def SheetNoTwoWrongFalsely : Prop := sheetNoTwoRow.holds Try.pinned (OpenSpec.ofChange sheetNoTwoWrong)

/-- 'frisketlaw20.SheetBack': WHATEVER THE INPUT: true; the input reads as it did. -/
def sheetBackSpec : ChangeSpec := { name := "sheetBack", fn := fun _ => fun
  | [d1, d2, d3] => { results := [.lit (.bool true)], args := [d1, d2, d3] }
  | _ => none }
def sheetBackRow : OpenClaim := { program := "ytpljnkfbcgdafaa", sum := "54d4db9b5b6185c4c40c15838d3a0a99397dd088f62000eaa947512a5bce643f", func := "frisket/frisketlaw20.SheetBack", spec := "sheetBack", unfollowed := true, recurses := true, plainKeys := false, apart := false }
def SheetBackSaid : Prop := sheetBackRow.holds Try.pinned (OpenSpec.ofChange sheetBackSpec)

/-- ITS FALSE NEIGHBOUR: 'it returns false'. Refute it at one input. -/
def sheetBackWrong : ChangeSpec := { name := "sheetBack", fn := fun _ => fun
  | [d1, d2, d3] => { results := [.lit (.bool false)], args := [d1, d2, d3] }
  | _ => none }
def SheetBackWrongFalsely : Prop := sheetBackRow.holds Try.pinned (OpenSpec.ofChange sheetBackWrong)

/-- 'frisketlaw20.SheetNil': WHATEVER THE INPUT: true; the input reads as it did. -/
def sheetNilSpec : ChangeSpec := { name := "sheetNil", fn := fun _ => fun
  | [d1, d2] => { results := [.lit (.bool true)], args := [d1, d2] }
  | _ => none }
def sheetNilRow : OpenClaim := { program := "ytpljnkfbcgdafaa", sum := "54d4db9b5b6185c4c40c15838d3a0a99397dd088f62000eaa947512a5bce643f", func := "frisket/frisketlaw20.SheetNil", spec := "sheetNil", unfollowed := true, recurses := true, plainKeys := false, apart := false }
def SheetNilSaid : Prop := sheetNilRow.holds Try.pinned (OpenSpec.ofChange sheetNilSpec)

/-- ITS FALSE NEIGHBOUR: 'it returns false'. Refute it at one input. -/
def sheetNilWrong : ChangeSpec := { name := "sheetNil", fn := fun _ => fun
  | [d1, d2] => { results := [.lit (.bool false)], args := [d1, d2] }
  | _ => none }
def SheetNilWrongFalsely : Prop := sheetNilRow.holds Try.pinned (OpenSpec.ofChange sheetNilWrong)

/- THE SECOND FORM. 'bulk': how many values and letters a reading holds, each counted each time it is reached (what is shared counts as often as it is met; a slice's spare places count too). A statement '..UptoSaid' is the law's where the arguments, and the package variables that the reading takes, are together of bulk at most 1048576: NARROWER than '..Said'. Prove '..Said' where nothing that the law and all that it calls make is longer than what came in: it says more and counts as full. Else prove '..UptoSaid'. A law counts once. -/
mutual
def uptoBulk {H : Type} : DataW H → Nat
  | .lit (.string bytes) => bytes.length + 1
  | .lit _ => 1
  | .nil => 1
  | .ptr d => uptoBulk d + 1
  | .slice elems spare => uptoBulkAll elems + uptoBulkAll spare + 1
  | .agg parts => uptoBulkAll parts + 1
  | .iface _ d => uptoBulk d + 1
  | .map entries => uptoBulkEntries entries + 1
  | .held _ => 1
def uptoBulkAll {H : Type} : List (DataW H) → Nat
  | [] => 0
  | d :: r => uptoBulk d + uptoBulkAll r
def uptoBulkEntries {H : Type} : List (Lit × DataW H) → Nat
  | [] => 0
  | x :: r => uptoBulkEntry x + uptoBulkEntries r
def uptoBulkEntry {H : Type} : Lit × DataW H → Nat
  | (.string bytes, d) => bytes.length + uptoBulk d + 1
  | (_, d) => uptoBulk d + 1
 end
def uptoSmall : (H : Type) → List (DataW H) → Bool := fun _ ds => decide (uptoBulkAll ds ≤ 1048576)
def OpenSpec.upto (s : _root_.Go.ChangeSpec) : _root_.Go.OpenSpec := { _root_.Go.OpenSpec.ofChange s with cond := some uptoSmall }

/-- 'frisketlaw20.SheetPlays', WHERE WHAT IT READS IS OF BULK AT MOST 1048576: true; the input reads as it did. -/
def sheetPlaysUptoRow : OpenClaim := { program := "ytpljnkfbcgdafaa", sum := "54d4db9b5b6185c4c40c15838d3a0a99397dd088f62000eaa947512a5bce643f", func := "frisket/frisketlaw20.SheetPlays", spec := "sheetPlays", unfollowed := true, recurses := true, plainKeys := false, apart := false, narrowed := true }
def SheetPlaysUptoSaid : Prop := sheetPlaysUptoRow.holds Try.pinned (OpenSpec.upto sheetPlaysSpec)

/-- 'frisketlaw20.SheetNoTwo', WHERE WHAT IT READS IS OF BULK AT MOST 1048576: true; the input reads as it did. -/
def sheetNoTwoUptoRow : OpenClaim := { program := "ytpljnkfbcgdafaa", sum := "54d4db9b5b6185c4c40c15838d3a0a99397dd088f62000eaa947512a5bce643f", func := "frisket/frisketlaw20.SheetNoTwo", spec := "sheetNoTwo", unfollowed := true, recurses := true, plainKeys := false, apart := false, narrowed := true }
def SheetNoTwoUptoSaid : Prop := sheetNoTwoUptoRow.holds Try.pinned (OpenSpec.upto sheetNoTwoSpec)

/-- 'frisketlaw20.SheetBack', WHERE WHAT IT READS IS OF BULK AT MOST 1048576: true; the input reads as it did. -/
def sheetBackUptoRow : OpenClaim := { program := "ytpljnkfbcgdafaa", sum := "54d4db9b5b6185c4c40c15838d3a0a99397dd088f62000eaa947512a5bce643f", func := "frisket/frisketlaw20.SheetBack", spec := "sheetBack", unfollowed := true, recurses := true, plainKeys := false, apart := false, narrowed := true }
def SheetBackUptoSaid : Prop := sheetBackUptoRow.holds Try.pinned (OpenSpec.upto sheetBackSpec)

/-- 'frisketlaw20.SheetNil', WHERE WHAT IT READS IS OF BULK AT MOST 1048576: true; the input reads as it did. -/
def sheetNilUptoRow : OpenClaim := { program := "ytpljnkfbcgdafaa", sum := "54d4db9b5b6185c4c40c15838d3a0a99397dd088f62000eaa947512a5bce643f", func := "frisket/frisketlaw20.SheetNil", spec := "sheetNil", unfollowed := true, recurses := true, plainKeys := false, apart := false, narrowed := true }
def SheetNilUptoSaid : Prop := sheetNilUptoRow.holds Try.pinned (OpenSpec.upto sheetNilSpec)

end Rows
end Go.Proofs.Ytpljnkfbcgdafaa
