/-
  No cell of these rows narrows 'for every input' (looked for: loops, veiled, ifaces, maps, wideKeys, modest, calm, conditions, laid).
  DERIVED. THE GIVEN ROWS OF THIS SEAT. 4 by the template 'for every input the law returns true; each argument reads behind the call as it read before'; 0 by the template 'total and deterministic' (their statements: YteeoomenncocpaaTotals.lean).
  GIVEN WITH THE SEED: the statements are not yours to turn. If you find one false, say at which input.
  Laid BY PROGRAM, IN A SANDBOX (cutbox-rows.mjs): the forced cells as the released guide's own fill.sh prints them over the translation ace9a9e46fd43084… (all of the seat's roots in one cut). By AI agents, Wed Nov 11 2026. No macro, syntax, notation, axiom, sorry.
-/
import Derived.Test.YteeoomenncocpaaChecked
import GoSem.Claim
import GoSem.ClaimJoined
import GoSem.ClaimMapViews
import Derived.JoinedTies
import Derived.KernelRfl
namespace Go.Proofs.Yteeoomenncocpaa
/- THE CELL 'sum', in the pinned program and in every row, IS THE sha256 OF THE DUMP (.gsa) THAT YteeoomenncocpaaProg.lean LOADS. Nothing in Lean hashes anything: it is a label: what it is worth is what the hold of that sum in a sandbox is worth. -/
noncomputable def Try.pinned : Pinned := { name := "yteeoomenncocpaa", sum := "ace9a9e46fd43084dec2847cb644e9c99690660c2626e2f145f9e0ebbc268c2c", checked := Try.checked }
namespace Rows
def none {H : Type} : Left H := { results := [], args := [] }

/-- 'frisketlaw17.FillParts': WHATEVER THE INPUT: true; the input reads as it did. -/
def fillPartsSpec : ChangeSpec := { name := "fillParts", fn := fun _ => fun
  | [d1, d2] => { results := [.lit (.bool true)], args := [d1, d2] }
  | _ => none }
def fillPartsRow : OpenClaim := { program := "yteeoomenncocpaa", sum := "ace9a9e46fd43084dec2847cb644e9c99690660c2626e2f145f9e0ebbc268c2c", func := "frisket/frisketlaw17.FillParts", spec := "fillParts", unfollowed := true, recurses := true, apart := false }
def FillPartsSaid : Prop := fillPartsRow.holds Try.pinned (OpenSpec.ofChange fillPartsSpec)

/-- ITS FALSE NEIGHBOUR: 'it returns false'. Refute it at one input. -/
def fillPartsWrong : ChangeSpec := { name := "fillParts", fn := fun _ => fun
  | [d1, d2] => { results := [.lit (.bool false)], args := [d1, d2] }
  | _ => none }
def FillPartsWrongFalsely : Prop := fillPartsRow.holds Try.pinned (OpenSpec.ofChange fillPartsWrong)

/-- 'frisketlaw17.FillLines': WHATEVER THE INPUT: true; the input reads as it did. -/
def fillLinesSpec : ChangeSpec := { name := "fillLines", fn := fun _ => fun
  | [d1, d2] => { results := [.lit (.bool true)], args := [d1, d2] }
  | _ => none }
def fillLinesRow : OpenClaim := { program := "yteeoomenncocpaa", sum := "ace9a9e46fd43084dec2847cb644e9c99690660c2626e2f145f9e0ebbc268c2c", func := "frisket/frisketlaw17.FillLines", spec := "fillLines", unfollowed := true, recurses := true, apart := false }
def FillLinesSaid : Prop := fillLinesRow.holds Try.pinned (OpenSpec.ofChange fillLinesSpec)

/-- ITS FALSE NEIGHBOUR: 'it returns false'. Refute it at one input. -/
def fillLinesWrong : ChangeSpec := { name := "fillLines", fn := fun _ => fun
  | [d1, d2] => { results := [.lit (.bool false)], args := [d1, d2] }
  | _ => none }
def FillLinesWrongFalsely : Prop := fillLinesRow.holds Try.pinned (OpenSpec.ofChange fillLinesWrong)

/-- 'frisketlaw17.FillEach': WHATEVER THE INPUT: true; the input reads as it did. -/
def fillEachSpec : ChangeSpec := { name := "fillEach", fn := fun _ => fun
  | [d] => { results := [.lit (.bool true)], args := [d] }
  | _ => none }
def fillEachRow : OpenClaim := { program := "yteeoomenncocpaa", sum := "ace9a9e46fd43084dec2847cb644e9c99690660c2626e2f145f9e0ebbc268c2c", func := "frisket/frisketlaw17.FillEach", spec := "fillEach", unfollowed := true, recurses := true, apart := false }
def FillEachSaid : Prop := fillEachRow.holds Try.pinned (OpenSpec.ofChange fillEachSpec)

/-- ITS FALSE NEIGHBOUR: 'it returns false'. Refute it at one input. -/
def fillEachWrong : ChangeSpec := { name := "fillEach", fn := fun _ => fun
  | [d] => { results := [.lit (.bool false)], args := [d] }
  | _ => none }
def FillEachWrongFalsely : Prop := fillEachRow.holds Try.pinned (OpenSpec.ofChange fillEachWrong)

/-- 'frisketlaw17.FillLong': WHATEVER THE INPUT: true; the input reads as it did. -/
def fillLongSpec : ChangeSpec := { name := "fillLong", fn := fun _ => fun
  | [d] => { results := [.lit (.bool true)], args := [d] }
  | _ => none }
def fillLongRow : OpenClaim := { program := "yteeoomenncocpaa", sum := "ace9a9e46fd43084dec2847cb644e9c99690660c2626e2f145f9e0ebbc268c2c", func := "frisket/frisketlaw17.FillLong", spec := "fillLong", unfollowed := true, recurses := true, apart := false }
def FillLongSaid : Prop := fillLongRow.holds Try.pinned (OpenSpec.ofChange fillLongSpec)

/-- ITS FALSE NEIGHBOUR: 'it returns false'. Refute it at one input. -/
def fillLongWrong : ChangeSpec := { name := "fillLong", fn := fun _ => fun
  | [d] => { results := [.lit (.bool false)], args := [d] }
  | _ => none }
def FillLongWrongFalsely : Prop := fillLongRow.holds Try.pinned (OpenSpec.ofChange fillLongWrong)

/- THE SECOND FORM. 'bulk': how many values and letters a reading holds, each counted each time it is reached (what is shared counts as often as it is met; a slice's spare places count too). A statement '..UptoSaid' is the law's where the arguments, and the package variables that the reading takes, are together of bulk at most 1048576: NARROWER than '..Said'. Prove '..Said' where nothing that the law and all that it calls make is longer than what came in: it says more and counts as full. Else prove '..UptoSaid'. A law counts once. -/
mutual
def uptoBulk {H : Type} : DataW H → Nat
  | .lit (.string bytes) => bytes.length + 1
  | .lit _ => 1
  | .nil => 1
  | .ptr d => uptoBulk d + 1
  | .slice elems spare => uptoBulkAll elems + uptoBulkAll spare + 1
  | .agg parts => uptoBulkAll parts + 1
  | .iface _ d => uptoBulk d + 1
  | .map entries => uptoBulkEntries entries + 1
  | .held _ => 1
def uptoBulkAll {H : Type} : List (DataW H) → Nat
  | [] => 0
  | d :: r => uptoBulk d + uptoBulkAll r
def uptoBulkEntries {H : Type} : List (Lit × DataW H) → Nat
  | [] => 0
  | x :: r => uptoBulkEntry x + uptoBulkEntries r
def uptoBulkEntry {H : Type} : Lit × DataW H → Nat
  | (.string bytes, d) => bytes.length + uptoBulk d + 1
  | (_, d) => uptoBulk d + 1
 end
def uptoSmall : (H : Type) → List (DataW H) → Bool := fun _ ds => decide (uptoBulkAll ds ≤ 1048576)
def OpenSpec.upto (s : _root_.Go.ChangeSpec) : _root_.Go.OpenSpec := { _root_.Go.OpenSpec.ofChange s with cond := some uptoSmall }

/-- 'frisketlaw17.FillParts', WHERE WHAT IT READS IS OF BULK AT MOST 1048576: true; the input reads as it did. -/
def fillPartsUptoRow : OpenClaim := { program := "yteeoomenncocpaa", sum := "ace9a9e46fd43084dec2847cb644e9c99690660c2626e2f145f9e0ebbc268c2c", func := "frisket/frisketlaw17.FillParts", spec := "fillParts", unfollowed := true, recurses := true, apart := false, narrowed := true }
def FillPartsUptoSaid : Prop := fillPartsUptoRow.holds Try.pinned (OpenSpec.upto fillPartsSpec)

/-- 'frisketlaw17.FillLines', WHERE WHAT IT READS IS OF BULK AT MOST 1048576: true; the input reads as it did. -/
def fillLinesUptoRow : OpenClaim := { program := "yteeoomenncocpaa", sum := "ace9a9e46fd43084dec2847cb644e9c99690660c2626e2f145f9e0ebbc268c2c", func := "frisket/frisketlaw17.FillLines", spec := "fillLines", unfollowed := true, recurses := true, apart := false, narrowed := true }
def FillLinesUptoSaid : Prop := fillLinesUptoRow.holds Try.pinned (OpenSpec.upto fillLinesSpec)

/-- 'frisketlaw17.FillEach', WHERE WHAT IT READS IS OF BULK AT MOST 1048576: true; the input reads as it did. -/
def fillEachUptoRow : OpenClaim := { program := "yteeoomenncocpaa", sum := "ace9a9e46fd43084dec2847cb644e9c99690660c2626e2f145f9e0ebbc268c2c", func := "frisket/frisketlaw17.FillEach", spec := "fillEach", unfollowed := true, recurses := true, apart := false, narrowed := true }
def FillEachUptoSaid : Prop := fillEachUptoRow.holds Try.pinned (OpenSpec.upto fillEachSpec)

/-- 'frisketlaw17.FillLong', WHERE WHAT IT READS IS OF BULK AT MOST 1048576: true; the input reads as it did. -/
def fillLongUptoRow : OpenClaim := { program := "yteeoomenncocpaa", sum := "ace9a9e46fd43084dec2847cb644e9c99690660c2626e2f145f9e0ebbc268c2c", func := "frisket/frisketlaw17.FillLong", spec := "fillLong", unfollowed := true, recurses := true, apart := false, narrowed := true }
def FillLongUptoSaid : Prop := fillLongUptoRow.holds Try.pinned (OpenSpec.upto fillLongSpec)

end Rows
end Go.Proofs.Yteeoomenncocpaa
