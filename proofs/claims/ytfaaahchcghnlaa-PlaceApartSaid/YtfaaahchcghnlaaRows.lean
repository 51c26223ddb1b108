/-
  No cell of these rows narrows 'for every input' (looked for: loops, veiled, ifaces, maps, wideKeys, modest, calm, conditions, laid).
  DERIVED. THE GIVEN ROWS OF THIS SEAT. 5 by the template 'for every input the law returns true; each argument reads behind the call as it read before'; 0 by the template 'total and deterministic' (their statements: YtfaaahchcghnlaaTotals.lean).
  GIVEN WITH THE SEED: the statements are not yours to turn. If you find one false, say at which input.
  Laid BY PROGRAM, IN A SANDBOX (cutbox-rows.mjs): the forced cells as the released guide's own fill.sh prints them over the translation f92026e526b953fc… (all of the seat's roots in one cut). By AI agents, Wed Nov 11 2026. No macro, syntax, notation, axiom, sorry.
-/
import Derived.Test.YtfaaahchcghnlaaChecked
import GoSem.Claim
import GoSem.ClaimJoined
import GoSem.ClaimMapViews
import Derived.JoinedTies
import Derived.KernelRfl
namespace Go.Proofs.Ytfaaahchcghnlaa
/- THE CELL 'sum', in the pinned program and in every row, IS THE sha256 OF THE DUMP (.gsa) THAT YtfaaahchcghnlaaProg.lean LOADS. Nothing in Lean hashes anything: it is a label: what it is worth is what the hold of that sum in a sandbox is worth. -/
noncomputable def Try.pinned : Pinned := { name := "ytfaaahchcghnlaa", sum := "f92026e526b953fc07a61ef818c393c104a95ff5a465b3b1f0c6b39106542eb5", checked := Try.checked }
namespace Rows
def none {H : Type} : Left H := { results := [], args := [] }

/-- 'frisketlaw19.PlaceTells': WHATEVER THE INPUT: true; the input reads as it did. -/
def placeTellsSpec : ChangeSpec := { name := "placeTells", fn := fun _ => fun
  | [d1, d2] => { results := [.lit (.bool true)], args := [d1, d2] }
  | _ => none }
def placeTellsRow : OpenClaim := { program := "ytfaaahchcghnlaa", sum := "f92026e526b953fc07a61ef818c393c104a95ff5a465b3b1f0c6b39106542eb5", func := "frisket/frisketlaw19.PlaceTells", spec := "placeTells", unfollowed := true, recurses := true, apart := false }
def PlaceTellsSaid : Prop := placeTellsRow.holds Try.pinned (OpenSpec.ofChange placeTellsSpec)

/-- ITS FALSE NEIGHBOUR: 'it returns false'. Refute it at one input. -/
def placeTellsWrong : ChangeSpec := { name := "placeTells", fn := fun _ => fun
  | [d1, d2] => { results := [.lit (.bool false)], args := [d1, d2] }
  | _ => none }
def PlaceTellsWrongFalsely : Prop := placeTellsRow.holds Try.pinned (OpenSpec.ofChange placeTellsWrong)

/-- 'frisketlaw19.PlaceBack': WHATEVER THE INPUT: true; the input reads as it did. -/
def placeBackSpec : ChangeSpec := { name := "placeBack", fn := fun _ => fun
  | [d1, d2, d3] => { results := [.lit (.bool true)], args := [d1, d2, d3] }
  | _ => none }
def placeBackRow : OpenClaim := { program := "ytfaaahchcghnlaa", sum := "f92026e526b953fc07a61ef818c393c104a95ff5a465b3b1f0c6b39106542eb5", func := "frisket/frisketlaw19.PlaceBack", spec := "placeBack", unfollowed := true, recurses := true, apart := false }
def PlaceBackSaid : Prop := placeBackRow.holds Try.pinned (OpenSpec.ofChange placeBackSpec)

/-- ITS FALSE NEIGHBOUR: 'it returns false'. Refute it at one input. -/
def placeBackWrong : ChangeSpec := { name := "placeBack", fn := fun _ => fun
  | [d1, d2, d3] => { results := [.lit (.bool false)], args := [d1, d2, d3] }
  | _ => none }
def PlaceBackWrongFalsely : Prop := placeBackRow.holds Try.pinned (OpenSpec.ofChange placeBackWrong)

/-- 'frisketlaw19.PlaceRound': WHATEVER THE INPUT: true; the input reads as it did. -/
def placeRoundSpec : ChangeSpec := { name := "placeRound", fn := fun _ => fun
  | [d1, d2] => { results := [.lit (.bool true)], args := [d1, d2] }
  | _ => none }
def placeRoundRow : OpenClaim := { program := "ytfaaahchcghnlaa", sum := "f92026e526b953fc07a61ef818c393c104a95ff5a465b3b1f0c6b39106542eb5", func := "frisket/frisketlaw19.PlaceRound", spec := "placeRound", unfollowed := true, recurses := true, apart := false }
def PlaceRoundSaid : Prop := placeRoundRow.holds Try.pinned (OpenSpec.ofChange placeRoundSpec)

/-- ITS FALSE NEIGHBOUR: 'it returns false'. Refute it at one input. -/
def placeRoundWrong : ChangeSpec := { name := "placeRound", fn := fun _ => fun
  | [d1, d2] => { results := [.lit (.bool false)], args := [d1, d2] }
  | _ => none }
def PlaceRoundWrongFalsely : Prop := placeRoundRow.holds Try.pinned (OpenSpec.ofChange placeRoundWrong)

/-- 'frisketlaw19.PlaceApart': WHATEVER THE INPUT: true; the input reads as it did. -/
def placeApartSpec : ChangeSpec := { name := "placeApart", fn := fun _ => fun
  | [d1, d2, d3] => { results := [.lit (.bool true)], args := [d1, d2, d3] }
  | _ => none }
def placeApartRow : OpenClaim := { program := "ytfaaahchcghnlaa", sum := "f92026e526b953fc07a61ef818c393c104a95ff5a465b3b1f0c6b39106542eb5", func := "frisket/frisketlaw19.PlaceApart", spec := "placeApart", unfollowed := true, recurses := true, apart := false }
def PlaceApartSaid : Prop := placeApartRow.holds Try.pinned (OpenSpec.ofChange placeApartSpec)

/-- ITS FALSE NEIGHBOUR: 'it returns false'. Refute it at one input. -/
def placeApartWrong : ChangeSpec := { name := "placeApart", fn := fun _ => fun
  | [d1, d2, d3] => { results := [.lit (.bool false)], args := [d1, d2, d3] }
  | _ => none }
def PlaceApartWrongFalsely : Prop := placeApartRow.holds Try.pinned (OpenSpec.ofChange placeApartWrong)

/-- 'frisketlaw19.PlaceCells': WHATEVER THE INPUT: true; the input reads as it did. -/
def placeCellsSpec : ChangeSpec := { name := "placeCells", fn := fun _ => fun
  | [d1, d2, d3] => { results := [.lit (.bool true)], args := [d1, d2, d3] }
  | _ => none }
def placeCellsRow : OpenClaim := { program := "ytfaaahchcghnlaa", sum := "f92026e526b953fc07a61ef818c393c104a95ff5a465b3b1f0c6b39106542eb5", func := "frisket/frisketlaw19.PlaceCells", spec := "placeCells", unfollowed := true, recurses := true, apart := false }
def PlaceCellsSaid : Prop := placeCellsRow.holds Try.pinned (OpenSpec.ofChange placeCellsSpec)

/-- ITS FALSE NEIGHBOUR: 'it returns false'. Refute it at one input. -/
def placeCellsWrong : ChangeSpec := { name := "placeCells", fn := fun _ => fun
  | [d1, d2, d3] => { results := [.lit (.bool false)], args := [d1, d2, d3] }
  | _ => none }
def PlaceCellsWrongFalsely : Prop := placeCellsRow.holds Try.pinned (OpenSpec.ofChange placeCellsWrong)

/- THE SECOND FORM. 'bulk': how many values and letters a reading holds, each counted each time it is reached (what is shared counts as often as it is met; a slice's spare places count too). A statement '..UptoSaid' is the law's where the arguments, and the package variables that the reading takes, are together of bulk at most 1048576: NARROWER than '..Said'. Prove '..Said' where nothing that the law and all that it calls make is longer than what came in: it says more and counts as full. Else prove '..UptoSaid'. A law counts once. -/
mutual
def uptoBulk {H : Type} : DataW H → Nat
  | .lit (.string bytes) => bytes.length + 1
  | .lit _ => 1
  | .nil => 1
  | .ptr d => uptoBulk d + 1
  | .slice elems spare => uptoBulkAll elems + uptoBulkAll spare + 1
  | .agg parts => uptoBulkAll parts + 1
  | .iface _ d => uptoBulk d + 1
  | .map entries => uptoBulkEntries entries + 1
  | .held _ => 1
def uptoBulkAll {H : Type} : List (DataW H) → Nat
  | [] => 0
  | d :: r => uptoBulk d + uptoBulkAll r
def uptoBulkEntries {H : Type} : List (Lit × DataW H) → Nat
  | [] => 0
  | x :: r => uptoBulkEntry x + uptoBulkEntries r
def uptoBulkEntry {H : Type} : Lit × DataW H → Nat
  | (.string bytes, d) => bytes.length + uptoBulk d + 1
  | (_, d) => uptoBulk d + 1
 end
def uptoSmall : (H : Type) → List (DataW H) → Bool := fun _ ds => decide (uptoBulkAll ds ≤ 1048576)
def OpenSpec.upto (s : _root_.Go.ChangeSpec) : _root_.Go.OpenSpec := { _root_.Go.OpenSpec.ofChange s with cond := some uptoSmall }

/-- 'frisketlaw19.PlaceTells', WHERE WHAT IT READS IS OF BULK AT MOST 1048576: true; the input reads as it did. -/
def placeTellsUptoRow : OpenClaim := { program := "ytfaaahchcghnlaa", sum := "f92026e526b953fc07a61ef818c393c104a95ff5a465b3b1f0c6b39106542eb5", func := "frisket/frisketlaw19.PlaceTells", spec := "placeTells", unfollowed := true, recurses := true, apart := false, narrowed := true }
def PlaceTellsUptoSaid : Prop := placeTellsUptoRow.holds Try.pinned (OpenSpec.upto placeTellsSpec)

/-- 'frisketlaw19.PlaceBack', WHERE WHAT IT READS IS OF BULK AT MOST 1048576: true; the input reads as it did. -/
def placeBackUptoRow : OpenClaim := { program := "ytfaaahchcghnlaa", sum := "f92026e526b953fc07a61ef818c393c104a95ff5a465b3b1f0c6b39106542eb5", func := "frisket/frisketlaw19.PlaceBack", spec := "placeBack", unfollowed := true, recurses := true, apart := false, narrowed := true }
def PlaceBackUptoSaid : Prop := placeBackUptoRow.holds Try.pinned (OpenSpec.upto placeBackSpec)

/-- 'frisketlaw19.PlaceRound', WHERE WHAT IT READS IS OF BULK AT MOST 1048576: true; the input reads as it did. -/
def placeRoundUptoRow : OpenClaim := { program := "ytfaaahchcghnlaa", sum := "f92026e526b953fc07a61ef818c393c104a95ff5a465b3b1f0c6b39106542eb5", func := "frisket/frisketlaw19.PlaceRound", spec := "placeRound", unfollowed := true, recurses := true, apart := false, narrowed := true }
def PlaceRoundUptoSaid : Prop := placeRoundUptoRow.holds Try.pinned (OpenSpec.upto placeRoundSpec)

/-- 'frisketlaw19.PlaceApart', WHERE WHAT IT READS IS OF BULK AT MOST 1048576: true; the input reads as it did. -/
def placeApartUptoRow : OpenClaim := { program := "ytfaaahchcghnlaa", sum := "f92026e526b953fc07a61ef818c393c104a95ff5a465b3b1f0c6b39106542eb5", func := "frisket/frisketlaw19.PlaceApart", spec := "placeApart", unfollowed := true, recurses := true, apart := false, narrowed := true }
def PlaceApartUptoSaid : Prop := placeApartUptoRow.holds Try.pinned (OpenSpec.upto placeApartSpec)

/-- 'frisketlaw19.PlaceCells', WHERE WHAT IT READS IS OF BULK AT MOST 1048576: true; the input reads as it did. -/
def placeCellsUptoRow : OpenClaim := { program := "ytfaaahchcghnlaa", sum := "f92026e526b953fc07a61ef818c393c104a95ff5a465b3b1f0c6b39106542eb5", func := "frisket/frisketlaw19.PlaceCells", spec := "placeCells", unfollowed := true, recurses := true, apart := false, narrowed := true }
def PlaceCellsUptoSaid : Prop := placeCellsUptoRow.holds Try.pinned (OpenSpec.upto placeCellsSpec)

end Rows
end Go.Proofs.Ytfaaahchcghnlaa
