/- sheet.cells: the iterator over a rect's cells. -/
import Derived.Test.YtpljnkfbcgdafaaHSheet
import Derived.RangeFuncLeaves
import Derived.RangeFuncNested
import Derived.WalkKit
import Derived.OwnWalkIn
import Derived.TacticsInMore
import Derived.LoopNIn
import Derived.LoopIn
import Derived.Maps.AppendAt
import Derived.Maps.OwnIn
namespace Go.Proofs.Ytpljnkfbcgdafaa.P
open Go.RowKit Go.Shelf Go.Proofs.YtpljnkfbcgdafaaW.PrintWords Go.Proofs.YtpljnkfbcgdafaaW.PrintLast Go.Proofs.YtpljnkfbcgdafaaW.PrintMore
set_option linter.unusedVariables false
set_option linter.unusedSimpArgs false
attribute [local go_sem] Oper.semAt_some

/-- A cell within reach. -/
abbrev CellK := { c : Int × Int // 0 ≤ c.1 ∧ c.1 ≤ 1000 ∧ 0 ≤ c.2 ∧ c.2 ≤ 1000 }
def mkC (x y : Int) : CellK := ⟨(max 0 (min x 1000), max 0 (min y 1000)), by simp only []; omega⟩
def cellAt (X Y : Int) (H k : Nat) : CellK := mkC (X + (k / H : Nat)) (Y + (k % H : Nat))
def upC (X Y : Int) (H k : Nat) : List CellK := (List.range k).map (cellAt X Y H)
theorem upC_succ (X Y : Int) (H k : Nat) : upC X Y H (k + 1) = upC X Y H k ++ [cellAt X Y H k] := by simp [upC, List.range_succ]
theorem mkC_in {x y : Int} (h : 0 ≤ x ∧ x ≤ 1000 ∧ 0 ≤ y ∧ y ≤ 1000) : (mkC x y).1 = (x, y) := by
  unfold mkC
  simp only [Prod.mk.injEq]
  omega
theorem cellAt_ij (X Y : Int) (H i j : Nat) (hj : j < H) (h : 0 ≤ X ∧ X + i ≤ 1000 ∧ 0 ≤ Y ∧ Y + j ≤ 1000) : (cellAt X Y H (i * H + j)).1 = (X + i, Y + j) := by
  have h1 : (i * H + j) / H = i := by rw [Nat.mul_comm, Nat.mul_add_div (by omega), Nat.div_eq_of_lt hj]; omega
  have h2 : (i * H + j) % H = j := by rw [Nat.mul_comm, Nat.mul_add_mod, Nat.mod_eq_of_lt hj]
  unfold cellAt
  rw [h1, h2]
  exact mkC_in (by omega)
/-- What a round keeps: the rect's box. -/
def KB (Bn : Nat) (W W' : World) : Prop := W'.heap[Bn]? = W.heap[Bn]?
theorem KB.t {Bn : Nat} {A B C : World} (h : KB Bn A B) (k : KB Bn B C) : KB Bn A C := Eq.trans k h
theorem KB.b {Bn : Nat} {w : World} (hn : Bn < w.heap.size) (W : World) (l : Nat) (o o' : Obj) (hl : w.heap.size ≤ l) (h : W.heap[l]? = some o) (hc : o.isCells = false) (hw : o.isWalk = false) : KB Bn W (W.putObj l o') :=
  World.putObj_heap_other (by omega)
theorem cells_in (n : Nat) (X Y W H : Int) (w : World) :
    CallsIn Fence.wide n Try.prog 30 #[.agg #[.int .i64 X, .int .i64 Y, .int .i64 W, .int .i64 H]] w fun e w' => e = .returned (.func (.func 37) #[] #[.pointer (some ⟨w.heap.size, 0, none⟩)]) ∧ w' = w.alloc (.cells #[.int .i64 X, .int .i64 Y, .int .i64 W, .int .i64 H] 32) := by
  have hu32 := Try.underlying32
  refine callsIn_of_wp Try.func30 rfl trivial ?_ rfl
  simp only [Try.ntmps30, List.size_toArray, List.length_cons, List.length_nil, Nat.reduceAdd, Nat.reduceSub, Array.replicate_succ, Array.replicate_zero, List.push_toArray, List.append_toArray, List.nil_append, List.cons_append]
  gi_wp2
  go_ret
  exact ⟨rfl, rfl⟩
set_option maxRecDepth 100000 in
set_option maxHeartbeats 4000000 in
theorem cells_stops (n : Nat) (hn : 1 ≤ n) (Bn : Nat) (X Y : Int) (Wn Hn : Nat) (hX : 0 ≤ X ∧ X ≤ 100 ∧ 0 ≤ Y ∧ Y ≤ 100) (hW : Wn ≤ 100 ∧ Hn ≤ 100) (w : World)
    (hb : w.heap[Bn]? = some (.cells #[.int .i64 X, .int .i64 Y, .int .i64 (Wn : Int), .int .i64 (Hn : Int)] 32 (0, 0))) :
    SeqStopsK Fence.wide n Try.prog 37 #[.pointer (some ⟨Bn, 0, none⟩)] (fun c : CellK => #[cv c.1.1 c.1.2]) (KB Bn) (fun ys => ys = upC X Y Hn (Wn * Hn)) (fun pre => ∃ k, k < Wn * Hn ∧ pre = upC X Y Hn (k + 1)) (Wn * Hn) w := fun l J Jx W hWw hJ hJx hY h0 => by
  have hu32 := Try.underlying32
  refine callsIn_of_wp Try.func37 rfl trivial ?_ rfl
  simp only [Try.ntmps37, List.size_toArray, List.length_cons, List.length_nil, Nat.reduceAdd, Nat.reduceSub, Array.replicate_succ, Array.replicate_zero, List.push_toArray, List.append_toArray, List.nil_append, List.cons_append]
  have hbW : W.heap[Bn]? = some (.cells #[.int .i64 X, .int .i64 Y, .int .i64 (Wn : Int), .int .i64 (Hn : Int)] 32 (0, 0)) := blk_below hb hWw
  have HBW := Aside0.mk hbW
  have HXX := Aside0.mk hX
  have HWW := Aside0.mk hW
  have c2 := cI hbW 2 (v := .int .i64 (Wn : Int)) rfl
  clear hb hbW hX hW
  gi_wp2
  gi_loopw [7] (fun p wr => ∃ (i : Nat), p = .int .i64 (i : Int) ∧ Aside0 (i ≤ Wn) ∧ J (upC X Y Hn (i * Hn)) wr ∧ Aside0 (wr.heap[Bn]? = some (.cells #[.int .i64 X, .int .i64 Y, .int .i64 (Wn : Int), .int .i64 (Hn : Int)] 32 (0, 0))))
    (fun p _ => Wn - (intOf p).toNat)
  case atStart => exact ⟨0, rfl, ⟨by omega⟩, by simpa [upC] using h0, HBW⟩
  case round =>
    obtain ⟨i, rfl, HI, hJi, HB⟩ := hrel
    clear c2
    have c3 := cI HB.out 3 (v := .int .i64 (Hn : Int)) rfl
    by_cases ci : i < Wn
    · have cb : decide (i < Wn) = true := decide_eq_true ci
      have HCI := Aside0.mk ci
      clear ci
      gi_wp2
      gi_loopw [12] (fun p wr => ∃ (j : Nat), p = .int .i64 (j : Int) ∧ Aside0 (j ≤ Hn) ∧ J (upC X Y Hn (i * Hn + j)) wr ∧ Aside0 (wr.heap[Bn]? = some (.cells #[.int .i64 X, .int .i64 Y, .int .i64 (Wn : Int), .int .i64 (Hn : Int)] 32 (0, 0))))
        (fun p _ => Hn - (intOf p).toNat)
      case atStart => exact ⟨0, rfl, ⟨by omega⟩, hJi, HB⟩
      case round =>
        obtain ⟨j, rfl, HJ, hJj, HB2⟩ := hrel
        clear c3 hJi
        by_cases cj : j < Hn
        · have cbj : decide (j < Hn) = true := decide_eq_true cj
          have d0 := cI HB2.out 0 (v := .int .i64 X) rfl
          have d1 := cI HB2.out 1 (v := .int .i64 Y) rfl
          have wx : wrap64 (X + (i : Int)) = X + (i : Int) := by have := HXX.out; have := HWW.out; have := HCI.out; unfold wrap64; omega
          have wy : wrap64 (Y + (j : Int)) = Y + (j : Int) := by have := HXX.out; have := HWW.out; unfold wrap64; omega
          have HWI := Aside0.mk (show wrap64 ((j : Int) + 1) = ((j + 1 : Nat) : Int) by have := HWW.out; unfold wrap64; omega)
          have hk : i * Hn + j < Wn * Hn := by
            have h1 : (i + 1) * Hn ≤ Wn * Hn := Nat.mul_le_mul_right _ HCI.out
            rw [Nat.succ_mul] at h1
            omega
          have hce := cellAt_ij X Y Hn i j cj (by have := HXX.out; have := HWW.out; have := HCI.out; omega)
          obtain ⟨fn, tmps, assign, body, hy, hR⟩ := hY (upC X Y Hn (i * Hn + j)) (cellAt X Y Hn (i * Hn + j)) wr hJj (by simpa [upC] using hk)
          rw [hce] at hy
          simp only [cv] at hy
          have HK := Aside0.mk hk
          have HCJ := Aside0.mk cj
          have HCE := Aside0.mk hce
          clear hk cj hce
          gi_wp2
          refine hR.mono ?_
          rintro e W3 (⟨rfl, hJ3, hk3⟩ | ⟨rfl, hJx3⟩)
          · have HB3 := Aside0.mk (hk3.trans HB2.out)
            clear hy hR hk3 wx wy d0 d1 hJj
            gi_wp2
            go_roundw
            case rel => exact ⟨j + 1, by rw [HWI.out], ⟨HCJ.out⟩, by have h9 := upC_succ X Y Hn (i * Hn + j); rw [Nat.add_assoc] at h9; rw [h9]; exact hJ3, HB3⟩
            case measure =>
              rw [HWI.out]
              have := HCJ.out
              simp [intOf]
              omega
          · gi_wp2
            refine bodyPost_ret (results_none rfl _ _ _) rfl ?_
            exact ⟨⟨_, rfl⟩, .inr ⟨_, ⟨i * Hn + j, HK.out, (upC_succ X Y Hn _).symm⟩, hJx3⟩⟩
        · have cbj : decide (j < Hn) = false := decide_eq_false cj
          have hjj : j = Hn := by have := HJ.out; omega
          have HWI := Aside0.mk (show wrap64 ((i : Int) + 1) = ((i + 1 : Nat) : Int) by have := HWW.out; have := HCI.out; unfold wrap64; omega)
          have HJJ := Aside0.mk hjj
          clear cj hjj
          gi_wp2
          go_roundw
          case rel => exact ⟨i + 1, by rw [HWI.out], ⟨HCI.out⟩, by rw [Nat.succ_mul, ← HJJ.out]; rw [HJJ.out] at hJj ⊢; exact hJj, HB2⟩
          case measure =>
            rw [HWI.out]
            have := HCI.out
            simp [intOf]
            omega
    · have cb : decide (i < Wn) = false := decide_eq_false ci
      have hii : i = Wn := by have := HI.out; omega
      have HII := Aside0.mk hii
      clear ci hii
      gi_wp2
      go_end0
      exact ⟨⟨_, rfl⟩, .inl ⟨_, rfl, by have := hJi; rw [HII.out] at this; exact this⟩⟩
end Go.Proofs.Ytpljnkfbcgdafaa.P
