/-
  No cell of these rows narrows 'for every input' (looked for: loops, veiled, ifaces, maps, wideKeys, modest, calm, conditions, laid).
  DERIVED. THE GIVEN ROWS OF THIS SEAT. 7 by the template 'for every input the law returns true; each argument reads behind the call as it read before'; 0 by the template 'total and deterministic' (their statements: YtijikaihmaganaaTotals.lean).
  GIVEN WITH THE SEED: the statements are not yours to turn. If you find one false, say at which input.
  Laid BY PROGRAM, IN A SANDBOX (cutbox-rows.mjs): the forced cells as the released guide's own fill.sh prints them over the translation ab1603368619f522… (all of the seat's roots in one cut). By AI agents, Wed Nov 11 2026. No macro, syntax, notation, axiom, sorry.
-/
import Derived.Test.YtijikaihmaganaaChecked
import GoSem.Claim
import GoSem.ClaimJoined
import GoSem.ClaimMapViews
import Derived.JoinedTies
import Derived.KernelRfl
namespace Go.Proofs.Ytijikaihmaganaa
/- THE CELL 'sum', in the pinned program and in every row, IS THE sha256 OF THE DUMP (.gsa) THAT YtijikaihmaganaaProg.lean LOADS. Nothing in Lean hashes anything: it is a label: what it is worth is what the hold of that sum in a sandbox is worth. -/
noncomputable def Try.pinned : Pinned := { name := "ytijikaihmaganaa", sum := "ab1603368619f52227189b2cb2d9b42678f12b99aac061af904473289b668def", checked := Try.checked }
namespace Rows
def none {H : Type} : Left H := { results := [], args := [] }

/-- 'frisketlaw01.UtfWrites': WHATEVER THE INPUT: true; the input reads as it did. -/
def utfWritesSpec : ChangeSpec := { name := "utfWrites", fn := fun _ => fun
  | [d1, d2] => { results := [.lit (.bool true)], args := [d1, d2] }
  | _ => none }
def utfWritesRow : OpenClaim := { program := "ytijikaihmaganaa", sum := "ab1603368619f52227189b2cb2d9b42678f12b99aac061af904473289b668def", func := "frisket/frisketlaw01.UtfWrites", spec := "utfWrites", unfollowed := true, recurses := true, apart := false }
def UtfWritesSaid : Prop := utfWritesRow.holds Try.pinned (OpenSpec.ofChange utfWritesSpec)

/-- ITS FALSE NEIGHBOUR: 'it returns false'. Refute it at one input. -/
def utfWritesWrong : ChangeSpec := { name := "utfWrites", fn := fun _ => fun
  | [d1, d2] => { results := [.lit (.bool false)], args := [d1, d2] }
  | _ => none }
def UtfWritesWrongFalsely : Prop := utfWritesRow.holds Try.pinned (OpenSpec.ofChange utfWritesWrong)

/-- 'frisketlaw01.UtfReads': WHATEVER THE INPUT: true; the input reads as it did. -/
def utfReadsSpec : ChangeSpec := { name := "utfReads", fn := fun _ => fun
  | [d] => { results := [.lit (.bool true)], args := [d] }
  | _ => none }
def utfReadsRow : OpenClaim := { program := "ytijikaihmaganaa", sum := "ab1603368619f52227189b2cb2d9b42678f12b99aac061af904473289b668def", func := "frisket/frisketlaw01.UtfReads", spec := "utfReads", unfollowed := true, recurses := true, apart := false }
def UtfReadsSaid : Prop := utfReadsRow.holds Try.pinned (OpenSpec.ofChange utfReadsSpec)

/-- ITS FALSE NEIGHBOUR: 'it returns false'. Refute it at one input. -/
def utfReadsWrong : ChangeSpec := { name := "utfReads", fn := fun _ => fun
  | [d] => { results := [.lit (.bool false)], args := [d] }
  | _ => none }
def UtfReadsWrongFalsely : Prop := utfReadsRow.holds Try.pinned (OpenSpec.ofChange utfReadsWrong)

/-- 'frisketlaw01.UtfBack': WHATEVER THE INPUT: true; the input reads as it did. -/
def utfBackSpec : ChangeSpec := { name := "utfBack", fn := fun _ => fun
  | [d1, d2] => { results := [.lit (.bool true)], args := [d1, d2] }
  | _ => none }
def utfBackRow : OpenClaim := { program := "ytijikaihmaganaa", sum := "ab1603368619f52227189b2cb2d9b42678f12b99aac061af904473289b668def", func := "frisket/frisketlaw01.UtfBack", spec := "utfBack", unfollowed := true, recurses := true, apart := false }
def UtfBackSaid : Prop := utfBackRow.holds Try.pinned (OpenSpec.ofChange utfBackSpec)

/-- ITS FALSE NEIGHBOUR: 'it returns false'. Refute it at one input. -/
def utfBackWrong : ChangeSpec := { name := "utfBack", fn := fun _ => fun
  | [d1, d2] => { results := [.lit (.bool false)], args := [d1, d2] }
  | _ => none }
def UtfBackWrongFalsely : Prop := utfBackRow.holds Try.pinned (OpenSpec.ofChange utfBackWrong)

/-- 'frisketlaw01.UtfOrder': WHATEVER THE INPUT: true; the input reads as it did. -/
def utfOrderSpec : ChangeSpec := { name := "utfOrder", fn := fun _ => fun
  | [d1, d2] => { results := [.lit (.bool true)], args := [d1, d2] }
  | _ => none }
def utfOrderRow : OpenClaim := { program := "ytijikaihmaganaa", sum := "ab1603368619f52227189b2cb2d9b42678f12b99aac061af904473289b668def", func := "frisket/frisketlaw01.UtfOrder", spec := "utfOrder", unfollowed := true, recurses := true, apart := false }
def UtfOrderSaid : Prop := utfOrderRow.holds Try.pinned (OpenSpec.ofChange utfOrderSpec)

/-- ITS FALSE NEIGHBOUR: 'it returns false'. Refute it at one input. -/
def utfOrderWrong : ChangeSpec := { name := "utfOrder", fn := fun _ => fun
  | [d1, d2] => { results := [.lit (.bool false)], args := [d1, d2] }
  | _ => none }
def UtfOrderWrongFalsely : Prop := utfOrderRow.holds Try.pinned (OpenSpec.ofChange utfOrderWrong)

/-- 'frisketlaw01.UtfJoins': WHATEVER THE INPUT: true; the input reads as it did. -/
def utfJoinsSpec : ChangeSpec := { name := "utfJoins", fn := fun _ => fun
  | [d1, d2] => { results := [.lit (.bool true)], args := [d1, d2] }
  | _ => none }
def utfJoinsRow : OpenClaim := { program := "ytijikaihmaganaa", sum := "ab1603368619f52227189b2cb2d9b42678f12b99aac061af904473289b668def", func := "frisket/frisketlaw01.UtfJoins", spec := "utfJoins", unfollowed := true, recurses := true, apart := false }
def UtfJoinsSaid : Prop := utfJoinsRow.holds Try.pinned (OpenSpec.ofChange utfJoinsSpec)

/-- ITS FALSE NEIGHBOUR: 'it returns false'. Refute it at one input. -/
def utfJoinsWrong : ChangeSpec := { name := "utfJoins", fn := fun _ => fun
  | [d1, d2] => { results := [.lit (.bool false)], args := [d1, d2] }
  | _ => none }
def UtfJoinsWrongFalsely : Prop := utfJoinsRow.holds Try.pinned (OpenSpec.ofChange utfJoinsWrong)

/-- 'frisketlaw18.RubyEach': WHATEVER THE INPUT: true; the input reads as it did. -/
def rubyEachSpec : ChangeSpec := { name := "rubyEach", fn := fun _ => fun
  | [d1, d2] => { results := [.lit (.bool true)], args := [d1, d2] }
  | _ => none }
def rubyEachRow : OpenClaim := { program := "ytijikaihmaganaa", sum := "ab1603368619f52227189b2cb2d9b42678f12b99aac061af904473289b668def", func := "frisket/frisketlaw18.RubyEach", spec := "rubyEach", unfollowed := true, recurses := true, apart := false }
def RubyEachSaid : Prop := rubyEachRow.holds Try.pinned (OpenSpec.ofChange rubyEachSpec)

/-- ITS FALSE NEIGHBOUR: 'it returns false'. Refute it at one input. -/
def rubyEachWrong : ChangeSpec := { name := "rubyEach", fn := fun _ => fun
  | [d1, d2] => { results := [.lit (.bool false)], args := [d1, d2] }
  | _ => none }
def RubyEachWrongFalsely : Prop := rubyEachRow.holds Try.pinned (OpenSpec.ofChange rubyEachWrong)

/-- 'frisketlaw18.RubyRoom': WHATEVER THE INPUT: true; the input reads as it did. -/
def rubyRoomSpec : ChangeSpec := { name := "rubyRoom", fn := fun _ => fun
  | [d1, d2] => { results := [.lit (.bool true)], args := [d1, d2] }
  | _ => none }
def rubyRoomRow : OpenClaim := { program := "ytijikaihmaganaa", sum := "ab1603368619f52227189b2cb2d9b42678f12b99aac061af904473289b668def", func := "frisket/frisketlaw18.RubyRoom", spec := "rubyRoom", unfollowed := true, recurses := true, apart := false }
def RubyRoomSaid : Prop := rubyRoomRow.holds Try.pinned (OpenSpec.ofChange rubyRoomSpec)

/-- ITS FALSE NEIGHBOUR: 'it returns false'. Refute it at one input. -/
def rubyRoomWrong : ChangeSpec := { name := "rubyRoom", fn := fun _ => fun
  | [d1, d2] => { results := [.lit (.bool false)], args := [d1, d2] }
  | _ => none }
def RubyRoomWrongFalsely : Prop := rubyRoomRow.holds Try.pinned (OpenSpec.ofChange rubyRoomWrong)

/- THE SECOND FORM. 'bulk': how many values and letters a reading holds, each counted each time it is reached (what is shared counts as often as it is met; a slice's spare places count too). A statement '..UptoSaid' is the law's where the arguments, and the package variables that the reading takes, are together of bulk at most 1048576: NARROWER than '..Said'. Prove '..Said' where nothing that the law and all that it calls make is longer than what came in: it says more and counts as full. Else prove '..UptoSaid'. A law counts once. -/
mutual
def uptoBulk {H : Type} : DataW H → Nat
  | .lit (.string bytes) => bytes.length + 1
  | .lit _ => 1
  | .nil => 1
  | .ptr d => uptoBulk d + 1
  | .slice elems spare => uptoBulkAll elems + uptoBulkAll spare + 1
  | .agg parts => uptoBulkAll parts + 1
  | .iface _ d => uptoBulk d + 1
  | .map entries => uptoBulkEntries entries + 1
  | .held _ => 1
def uptoBulkAll {H : Type} : List (DataW H) → Nat
  | [] => 0
  | d :: r => uptoBulk d + uptoBulkAll r
def uptoBulkEntries {H : Type} : List (Lit × DataW H) → Nat
  | [] => 0
  | x :: r => uptoBulkEntry x + uptoBulkEntries r
def uptoBulkEntry {H : Type} : Lit × DataW H → Nat
  | (.string bytes, d) => bytes.length + uptoBulk d + 1
  | (_, d) => uptoBulk d + 1
 end
def uptoSmall : (H : Type) → List (DataW H) → Bool := fun _ ds => decide (uptoBulkAll ds ≤ 1048576)
def OpenSpec.upto (s : _root_.Go.ChangeSpec) : _root_.Go.OpenSpec := { _root_.Go.OpenSpec.ofChange s with cond := some uptoSmall }

/-- 'frisketlaw01.UtfWrites', WHERE WHAT IT READS IS OF BULK AT MOST 1048576: true; the input reads as it did. -/
def utfWritesUptoRow : OpenClaim := { program := "ytijikaihmaganaa", sum := "ab1603368619f52227189b2cb2d9b42678f12b99aac061af904473289b668def", func := "frisket/frisketlaw01.UtfWrites", spec := "utfWrites", unfollowed := true, recurses := true, apart := false, narrowed := true }
def UtfWritesUptoSaid : Prop := utfWritesUptoRow.holds Try.pinned (OpenSpec.upto utfWritesSpec)

/-- 'frisketlaw01.UtfReads', WHERE WHAT IT READS IS OF BULK AT MOST 1048576: true; the input reads as it did. -/
def utfReadsUptoRow : OpenClaim := { program := "ytijikaihmaganaa", sum := "ab1603368619f52227189b2cb2d9b42678f12b99aac061af904473289b668def", func := "frisket/frisketlaw01.UtfReads", spec := "utfReads", unfollowed := true, recurses := true, apart := false, narrowed := true }
def UtfReadsUptoSaid : Prop := utfReadsUptoRow.holds Try.pinned (OpenSpec.upto utfReadsSpec)

/-- 'frisketlaw01.UtfBack', WHERE WHAT IT READS IS OF BULK AT MOST 1048576: true; the input reads as it did. -/
def utfBackUptoRow : OpenClaim := { program := "ytijikaihmaganaa", sum := "ab1603368619f52227189b2cb2d9b42678f12b99aac061af904473289b668def", func := "frisket/frisketlaw01.UtfBack", spec := "utfBack", unfollowed := true, recurses := true, apart := false, narrowed := true }
def UtfBackUptoSaid : Prop := utfBackUptoRow.holds Try.pinned (OpenSpec.upto utfBackSpec)

/-- 'frisketlaw01.UtfOrder', WHERE WHAT IT READS IS OF BULK AT MOST 1048576: true; the input reads as it did. -/
def utfOrderUptoRow : OpenClaim := { program := "ytijikaihmaganaa", sum := "ab1603368619f52227189b2cb2d9b42678f12b99aac061af904473289b668def", func := "frisket/frisketlaw01.UtfOrder", spec := "utfOrder", unfollowed := true, recurses := true, apart := false, narrowed := true }
def UtfOrderUptoSaid : Prop := utfOrderUptoRow.holds Try.pinned (OpenSpec.upto utfOrderSpec)

/-- 'frisketlaw01.UtfJoins', WHERE WHAT IT READS IS OF BULK AT MOST 1048576: true; the input reads as it did. -/
def utfJoinsUptoRow : OpenClaim := { program := "ytijikaihmaganaa", sum := "ab1603368619f52227189b2cb2d9b42678f12b99aac061af904473289b668def", func := "frisket/frisketlaw01.UtfJoins", spec := "utfJoins", unfollowed := true, recurses := true, apart := false, narrowed := true }
def UtfJoinsUptoSaid : Prop := utfJoinsUptoRow.holds Try.pinned (OpenSpec.upto utfJoinsSpec)

/-- 'frisketlaw18.RubyEach', WHERE WHAT IT READS IS OF BULK AT MOST 1048576: true; the input reads as it did. -/
def rubyEachUptoRow : OpenClaim := { program := "ytijikaihmaganaa", sum := "ab1603368619f52227189b2cb2d9b42678f12b99aac061af904473289b668def", func := "frisket/frisketlaw18.RubyEach", spec := "rubyEach", unfollowed := true, recurses := true, apart := false, narrowed := true }
def RubyEachUptoSaid : Prop := rubyEachUptoRow.holds Try.pinned (OpenSpec.upto rubyEachSpec)

/-- 'frisketlaw18.RubyRoom', WHERE WHAT IT READS IS OF BULK AT MOST 1048576: true; the input reads as it did. -/
def rubyRoomUptoRow : OpenClaim := { program := "ytijikaihmaganaa", sum := "ab1603368619f52227189b2cb2d9b42678f12b99aac061af904473289b668def", func := "frisket/frisketlaw18.RubyRoom", spec := "rubyRoom", unfollowed := true, recurses := true, apart := false, narrowed := true }
def RubyRoomUptoSaid : Prop := rubyRoomUptoRow.holds Try.pinned (OpenSpec.upto rubyRoomSpec)

end Rows
end Go.Proofs.Ytijikaihmaganaa
