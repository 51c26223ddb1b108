/- Written by wip/tools/gprint.py of this repo over the translation: Lean functions that answer as the Go functions named below do, and the proof of it; the conditions stand in each theorem. -/
import Derived.Test.YtbkgggcpkiddmaaProg
import Derived.Below
import Derived.Deep.Draws
import Derived.Deep.AppendLies
import Derived.Maps.AppendAt
import Derived.OwnWalk
import Derived.Laws.BytesArg
import Derived.Laws.MakeOwn
import Derived.Laws.OwnMore
import Derived.Deep.OwnRows
import Derived.Tactics
import Derived.Lib.ConvBytes
import Derived.Laws.Slices
import Derived.WalkKit
import Derived.KernelRfl
import Derived.RowKit3
import Derived.Deep.LoopGhost
import Derived.Deep.QuietTactic
import Derived.BigQuiet
import Derived.WideLaws
import Derived.Deep.DeepCutAuto
import Derived.Deep.CutBlock
import Derived.Deep.RegionHeld3
import Derived.Laws.Rows
import Derived.Lib.AppendStr
import Derived.ArgAppend
import Derived.Laws.IdiomCopy
import Derived.OrdersHeld
import Derived.Laws.BitsLemmas
import Derived.RowKit
import Derived.Test.YtbkgggcpkiddmaaWWords
import Derived.Test.YtbkgggcpkiddmaaWLast
import Derived.Test.YtbkgggcpkiddmaaWTab
import Derived.Test.YtbkgggcpkiddmaaWFour
import Derived.Test.YtbkgggcpkiddmaaWQPut
import Derived.Test.YtbkgggcpkiddmaaWApart
import Derived.Test.YtbkgggcpkiddmaaWArr
import Derived.Test.YtbkgggcpkiddmaaWZeros
import Derived.Test.YtbkgggcpkiddmaaWFoot
import Derived.Test.YtbkgggcpkiddmaaWKept
import Derived.Test.YtbkgggcpkiddmaaWShare
import Derived.Test.YtbkgggcpkiddmaaWN
import Derived.Test.YtbkgggcpkiddmaaWFootNe
import Derived.Test.YtbkgggcpkiddmaaWAt
import Derived.Test.YtbkgggcpkiddmaaWEqStruct
import Derived.Test.YtbkgggcpkiddmaaWRepsOne
import Derived.Test.YtbkgggcpkiddmaaWInv
import Derived.Test.YtbkgggcpkiddmaaWInvWords
import Derived.Test.YtbkgggcpkiddmaaWGuard
import Derived.Test.YtbkgggcpkiddmaaWNEv
import Derived.Test.YtbkgggcpkiddmaaWMore
namespace Go.Proofs.Ytbkgggcpkiddmaa.P
open Go.RowKit Go.Proofs.YtbkgggcpkiddmaaW.PrintWords Go.Proofs.YtbkgggcpkiddmaaW.PrintLast Go.Proofs.YtbkgggcpkiddmaaW.PrintMore
attribute [local go_sem] max2_int min2_int max_two min_two max_three min_three max_four min_four   -- for this text's walks alone
set_option linter.unusedVariables false
set_option linter.unusedSimpArgs false



def errW : Option Int → Value
  | none => .nilIface
  | some c => .iface 0 (.int .i64 c)
theorem errW_none : errW none = .nilIface := rfl
theorem errW_some (c : Int) : errW (some c) = .iface 0 (.int .i64 c) := rfl

inductive AF : Option Bool → Prop
  | none : AF none
  | false : AF (some false)
theorem AF.ite {c : Prop} [Decidable c] {a b : Option Bool} (h : AF a) (h' : AF b) : AF (if c then a else b) := by split <;> assumption
theorem AF.bind {α : Type} {o : Option α} {f : α → Option Bool} (h : ∀ t, AF (f t)) : AF (o.bind f) := by cases o with
  | none => exact AF.none
  | some x => exact h x
theorem af_absurd {o : Option Bool} {r : Bool} {G : Prop} (hr : r = true) (H : o = some r) (h : AF o) : G := by subst hr; cases h <;> cases H

theorem cI {w : World} {g : Nat} {t : TypeId} {cs : Array Value} (h : w.heap[g]? = some (.cells cs t (0, 0))) (i : Nat) {v : Value} (e : cs[i]? = some v) : w.cell? ⟨g, i, none⟩ = some v := (blk_cell h i).trans e
theorem bF {w : World} {g : Nat} {t : TypeId} {cs : Array Value} (h : w.heap[g]? = some (.cells cs t (0, 0))) (i : Nat) : w.frozen? ⟨g, i, none⟩ = false := blk_frozen h i
theorem bS {w W : World} {g j : Nat} {v : Value} (h : Below w.heap.size w W) (hg : w.heap.size ≤ g) : Below w.heap.size w (W.setCell ⟨g, j, none⟩ v) := below_set h hg
theorem bA {w : World} {g : Nat} {o : Obj} (h : w.heap[g]? = some o) (o' : Obj) : (w.alloc o').heap[g]? = some o := blk_alloc h o'
theorem bN {w : World} {g : Nat} {o : Obj} (h : w.heap[g]? = some o) (n : Nat) : (w.drewN n).heap[g]? = some o := blk_drewN h n
theorem bD {w : World} {g : Nat} {o : Obj} (h : w.heap[g]? = some o) : w.drew.heap[g]? = some o := blk_drew h

theorem info3 : (Try.prog.info? 3).map (fun i => (i.zero, i.size, i.bytes)) = some (some (.int .i64 0), 1, 8) := by kernel_rfl
theorem info4 : (Try.prog.info? 4).map (fun i => (i.zero, i.size, i.bytes)) = some (some (.bool false), 1, 1) := by kernel_rfl
-- the values' own types

end Go.Proofs.Ytbkgggcpkiddmaa.P
