/- ruby.Of: slices.IndexFunc over units with its literal. -/
import Derived.Test.YtijikaihmaganaaP0
import Derived.Shelf.Abstract
import Derived.RangeFuncBox
namespace Go.Proofs.Ytijikaihmaganaa.P
open Go.RowKit Go.Shelf Go.Proofs.YtijikaihmaganaaW.PrintWords Go.Proofs.YtijikaihmaganaaW.PrintLast Go.Proofs.YtijikaihmaganaaW.PrintMore
set_option linter.unusedVariables false
set_option linter.unusedSimpArgs false

def inU (it : Int) (x : S49) : Bool := decide (x.f0 ≤ it) && decide (it < x.f1)
def idxU (it : Int) : List S49 → Int → Int
  | [], _ => -1
  | x :: r, i => if inU it x = true then i else idxU it r (i + 1)
theorem idxU_at (it : Int) (l : List S49) (i : Nat) (h : i < l.length) : idxU it (l.drop i) i = if inU it (rd_T49 l i) = true then (i : Int) else idxU it (l.drop (i + 1)) (i + 1) := by
  rw [List.drop_eq_getElem_cons h]
  have e : rd_T49 l (i : Int) = l[i] := by
    unfold rd_T49
    simp [List.getD_eq_getElem?_getD, List.getElem?_eq_getElem h]
  rw [e]
  rfl
def ruby_Of.f (l : List S49) (it : Int) : Option Int := if l.length < 9223372036854775807 then some (idxU it l 0) else none
set_option maxHeartbeats 8000000 in
set_option maxRecDepth 100000 in
theorem inU_calls (b : Nat) (it : Int) (x : S49) (w : World) (hc : Boxed w b 3 (.int .i64 it)) :
    Calls Try.prog 38 #[.agg #[.int .i64 x.f0, .int .i64 x.f1, .int .i64 x.f2, .int .i64 x.f3, .int .i64 x.f4, .int .i64 x.f5, .int .i64 x.f6, .int .i64 x.f7], .pointer (some ⟨b, 0, none⟩)] w fun e w' => e = .returned (.bool (inU it x)) ∧ Below w.heap.size w w' := by
  have hu49 := Try.underlying49
  have HB := Aside0.mk (Below.refl w.heap.size w)
  have hcb := (hc.alloc (.cells #[.int .i64 x.f0, .int .i64 x.f1, .int .i64 x.f2, .int .i64 x.f3, .int .i64 x.f4, .int .i64 x.f5, .int .i64 x.f6, .int .i64 x.f7] 49)).cell
  have hz0 : (w.alloc (.cells #[.int .i64 x.f0, .int .i64 x.f1, .int .i64 x.f2, .int .i64 x.f3, .int .i64 x.f4, .int .i64 x.f5, .int .i64 x.f6, .int .i64 x.f7] 49)).cell? ⟨w.heap.size, 0, none⟩ = some (.int .i64 x.f0) := cell_of_row _ _ 0 _ _ _ (World.alloc_heap_new w _)
  have hz1 : (w.alloc (.cells #[.int .i64 x.f0, .int .i64 x.f1, .int .i64 x.f2, .int .i64 x.f3, .int .i64 x.f4, .int .i64 x.f5, .int .i64 x.f6, .int .i64 x.f7] 49)).cell? ⟨w.heap.size, 1, none⟩ = some (.int .i64 x.f1) := cell_of_row _ _ 1 _ _ _ (World.alloc_heap_new w _)
  clear hc
  by_cases h1 : x.f0 ≤ it
  · by_cases h2 : it < x.f1
    · go_enter Try.func38, Try.ntmps38
      go_wp2
      go_ret
      exact ⟨by simp [inU, h1, h2], below_alloc (Below.refl _ _) _⟩
    · go_enter Try.func38, Try.ntmps38
      go_wp2
      go_ret
      exact ⟨by simp [inU, h1, h2], below_alloc (Below.refl _ _) _⟩
  · go_enter Try.func38, Try.ntmps38
    go_wp2
    go_ret
    exact ⟨by simp [inU]; omega, below_alloc (Below.refl _ _) _⟩
set_option maxHeartbeats 8000000 in
set_option maxRecDepth 100000 in
theorem idxU_calls (b : Nat) (it : Int) (A0 : Option Addr) (c0 : Nat) (l0 : List S49) (w : World) (hbx : Boxed w b 3 (.int .i64 it)) (hr0 : Kd.C k49 w A0 l0.length l0) (hc0 : l0.length ≤ c0) (hl : l0.length < 9223372036854775807) :
    Calls Try.prog 37 #[.slice A0 l0.length c0, .func (.func 38) #[] #[.pointer (some ⟨b, 0, none⟩)]] w fun e w' => e = .returned (.int .i64 (idxU it l0 0)) ∧ Below w.heap.size w w' := by
  have hu49 := Try.underlying49
  have HR0 := Aside0.mk hr0
  have HC0 := Aside0.mk hc0
  have HL := Aside0.mk hl
  have HBX := Aside0.mk hbx
  clear hr0 hc0 hl hbx
  go_enter Try.func37, Try.ntmps37
  go_wp2
  go_loopg [5, 8] l0.length (fun kq v5 v8 w' => ∃ (i : Nat), v8 = .int .i64 (i : Int) ∧ Aside0 (i + kq = l0.length) ∧ Aside0 (idxU it (l0.drop i) i = idxU it l0 0) ∧ Aside0 (Below w.heap.size w w'))
  case atStart => exact ⟨0, rfl, ⟨by omega⟩, ⟨rfl⟩, ⟨Below.refl _ _⟩⟩
  case round =>
    obtain ⟨i, rfl, HI, HX, HB⟩ := hrel
    by_cases c : (i : Int) < (l0.length : Int)
    · have hi : i < l0.length := by omega
      have hx := HX.out
      rw [idxU_at it l0 i hi] at hx
      obtain ⟨ad, e, hx0, hx1, hx2, hx3, hx4, hx5, hx6, hx7⟩ := at_T49 (Kd.C_below HR0.out HB.out) (i : Int) (by omega) c
      cases e
      simp only [Int.toNat_natCast] at hx0 hx1 hx2 hx3 hx4 hx5 hx6 hx7
      have cb : decide ((i : Int) < (l0.length : Int)) = true := decide_eq_true c
      have q0 : decide ((0 : Int) ≤ (i : Int)) = true := decide_eq_true (by omega)
      have hin := inU_calls b it (rd_T49 l0 i) wr (blk_below HBX.out HB.out)
      go_wp2_with fail
      refine hin.mono ?_
      rintro e w' ⟨rfl, hb⟩
      by_cases hp : inU it (rd_T49 l0 i) = true
      · rw [hp]
        rw [if_pos hp] at hx
        go_wp2
        go_ret
        exact ⟨rfl, below_step HB.out hb⟩
      · have hp' : inU it (rd_T49 l0 i) = false := by simpa using hp
        rw [hp']
        rw [if_neg hp] at hx
        go_wp2
        go_roundg (gk - 1)
        case measure => have := HI.out; omega
        case rel => exact ⟨i + 1, by (have hw : wrap64 ((i : Int) + 1) = ((i + 1 : Nat) : Int) := by unfold wrap64; have := HL.out; omega); rw [hw], ⟨by have := HI.out; omega⟩, ⟨hx⟩, ⟨below_step HB.out hb⟩⟩
    · have hx := HX.out
      have hd : l0.drop i = [] := List.drop_eq_nil_of_le (by omega)
      rw [hd] at hx
      have cb : decide ((i : Int) < (l0.length : Int)) = false := decide_eq_false c
      go_wp2
      go_ret
      exact ⟨by rw [← hx]; rfl, HB.out⟩
set_option maxHeartbeats 8000000 in
set_option maxRecDepth 100000 in
theorem ruby_Of.calls (A0 : Option Addr) (c0 : Nat) (l0 : List S49) (it : Int) (r : Int) (w : World) (hr0 : Kd.C k49 w A0 l0.length l0) (hc0 : l0.length ≤ c0) (h : ruby_Of.f l0 it = some r) :
    Calls Try.prog 26 #[.slice A0 l0.length c0, .int .i64 it] w fun e w' => e = .returned (.int .i64 r) ∧ Below w.heap.size w w' := by
  have hl : l0.length < 9223372036854775807 := by
    unfold ruby_Of.f at h; split at h
    · assumption
    · simp at h
  unfold ruby_Of.f at h
  rw [if_pos hl] at h
  have h := Option.some.inj h
  subst h
  have hin := idxU_calls w.heap.size it A0 c0 l0 (w.alloc (.cells #[.int .i64 it] 3)) (Boxed.new w 3 _) (Kd.C_alloc hr0 _) hc0 hl
  clear hr0 hl
  go_enter Try.func26, Try.ntmps26
  go_wp2_with (refine hin.mono ?_; rintro e w' ⟨rfl, hb⟩)
  go_ret
  exact ⟨rfl, below_step (below_alloc (Below.refl _ _) _) hb⟩
end Go.Proofs.Ytijikaihmaganaa.P
