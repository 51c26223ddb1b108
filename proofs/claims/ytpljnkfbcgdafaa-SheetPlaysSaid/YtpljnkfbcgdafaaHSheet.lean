/- The sheet in memory; At, Free, New. -/
import Derived.Test.YtpljnkfbcgdafaaHMap
import Derived.RangeFuncBox
import Derived.Shelf.Abstract
namespace Go.Proofs.Ytpljnkfbcgdafaa.P
open Go.RowKit Go.Shelf Go.Proofs.YtpljnkfbcgdafaaW.PrintWords Go.Proofs.YtpljnkfbcgdafaaW.PrintLast Go.Proofs.YtpljnkfbcgdafaaW.PrintMore
set_option linter.unusedVariables false
set_option linter.unusedSimpArgs false

/-- A sheet lies at block p, its map at mb. -/
structure Sh (w : World) (p mb : Nat) (W H : Int) (es : List Ent) : Prop where
  blk : w.heap[p]? = some (.cells #[.int .i64 W, .int .i64 H, .map (some mb)] 52 (0, 0))
  own : OwnE w mb es
section
variable {w w' : World} {p mb : Nat} {W H : Int} {es : List Ent}
theorem Sh.lt (h : Sh w p mb W H es) : p < w.heap.size := blk_lt h.blk
theorem Sh.ne (h : Sh w p mb W H es) : p ≠ mb := by
  rintro rfl
  obtain ⟨D, ⟨es', clock, h1, _⟩, _⟩ := h.own
  have := h.blk
  rw [h1] at this
  cases this
theorem Sh.below (h : Sh w p mb W H es) (hb : Below w.heap.size w w') : Sh w' p mb W H es := ⟨blk_below h.blk hb, h.own.below hb⟩
theorem Sh.kept {row : Option Nat} (h : Sh w p mb W H es) (hg : w.grownBy w' row) (h1 : some p ≠ row) (h2 : some mb ≠ row) : Sh w' p mb W H es := ⟨(hg.block p h.lt h1).trans h.blk, h.own.kept hg h2⟩
theorem Sh.drewN (h : Sh w p mb W H es) (q : Nat) : Sh (w.drewN q) p mb W H es := h.below (pw_below_drewN (Below.refl _ _) q)
theorem Sh.c0 (h : Sh w p mb W H es) : w.cell? ⟨p, 0, none⟩ = some (.int .i64 W) := (blk_cell h.blk 0).trans rfl
theorem Sh.c1 (h : Sh w p mb W H es) : w.cell? ⟨p, 1, none⟩ = some (.int .i64 H) := (blk_cell h.blk 1).trans rfl
theorem Sh.c2 (h : Sh w p mb W H es) : w.cell? ⟨p, 2, none⟩ = some (.map (some mb)) := (blk_cell h.blk 2).trans rfl
end
set_option maxHeartbeats 2000000 in
set_option maxRecDepth 100000 in
theorem At.calls (p mb : Nat) (W H : Int) (es : List Ent) (x y : Int) (w : World) (h : Sh w p mb W H es) (hx : inK x) (hy : inK y) :
    Calls Try.prog 18 #[.pointer (some ⟨p, 0, none⟩), .int .i64 x, .int .i64 y] w fun e w' => e = .returned (.int .i64 (valE es x y)) ∧ w' = w := by
  have hu57 := Try.underlying57
  have hu52 := Try.underlying52
  have hc := h.c2
  have hl := h.own.look x y hx hy
  simp only [cv] at hl
  clear h hx hy
  go_enter Try.func18, Try.ntmps18
  go_wp2
  go_ret
  exact ⟨rfl, rfl⟩
set_option maxHeartbeats 2000000 in
set_option maxRecDepth 100000 in
theorem At_nil.calls (x y : Int) (w : World) :
    Calls Try.prog 18 #[.pointer none, .int .i64 x, .int .i64 y] w fun e w' => e = .returned (.int .i64 0) ∧ w' = w := by
  go_enter Try.func18, Try.ntmps18
  go_wp2
  go_ret
  exact ⟨rfl, rfl⟩
set_option maxHeartbeats 2000000 in
set_option maxRecDepth 100000 in
theorem Free_nil.calls (w : World) :
    Calls Try.prog 13 #[.pointer none] w fun e w' => e = .returned (.int .i64 0) ∧ w' = w := by
  go_enter Try.func13, Try.ntmps13
  go_wp2
  go_ret
  exact ⟨rfl, rfl⟩
set_option maxHeartbeats 2000000 in
set_option maxRecDepth 100000 in
theorem Free.calls (p mb : Nat) (W H : Int) (es : List Ent) (w : World) (h : Sh w p mb W H es) :
    Calls Try.prog 13 #[.pointer (some ⟨p, 0, none⟩)] w fun e w' => e = .returned (.int .i64 (wrap64 (wrap64 (W * H) - es.length))) ∧ ∃ q, w' = w.drewN q := by
  have hu52 := Try.underlying52
  have hc0 := h.c0
  have hc1 := h.c1
  have hc2 := h.c2
  have hl := fun q => (h.drewN q).own.len 3
  clear h
  go_enter Try.func13, Try.ntmps13
  go_wp2
  go_quiet (fail)
  go_wp2
  go_ret
  exact ⟨rfl, ⟨_, rfl⟩⟩
def sideB (n : Int) : Bool := decide (1 ≤ n) && decide (n ≤ 60)
set_option maxHeartbeats 2000000 in
set_option maxRecDepth 100000 in
theorem side.calls (n : Int) (w : World) : Calls Try.prog 22 #[.int .i64 n] w fun e w' => e = .returned (.bool (sideB n)) ∧ w' = w := by
  by_cases h1 : 1 ≤ n
  · by_cases h2 : n ≤ 60
    · have e : sideB n = true := by simp [sideB, h1, h2]
      rw [e]
      go_enter Try.func22, Try.ntmps22
      go_wp2
      go_ret
      exact ⟨rfl, rfl⟩
    · have e : sideB n = false := by simp [sideB, h1, h2]
      rw [e]
      have h3 : 60 < n := by omega
      go_enter Try.func22, Try.ntmps22
      go_wp2
      go_ret
      exact ⟨rfl, rfl⟩
  · have e : sideB n = false := by simp [sideB, h1]
    rw [e]
    go_enter Try.func22, Try.ntmps22
    go_wp2
    go_ret
    exact ⟨rfl, rfl⟩
set_option maxHeartbeats 2000000 in
set_option maxRecDepth 100000 in
theorem New.calls (W H : Int) (w : World) (hW : sideB W = true) (hH : sideB H = true) :
    Calls Try.prog 7 #[.int .i64 W, .int .i64 H] w fun e w' => ∃ p mb, e = .returned (.tuple #[.pointer (some ⟨p, 0, none⟩), .int .i64 0]) ∧ Sh w' p mb W H [] ∧ w.heap.size ≤ p ∧ w.heap.size ≤ mb ∧ Below w.heap.size w w' := by
  have hu52 := Try.underlying52
  have hmm := @run_makeMap Try.prog
  have s1 := side.calls W w
  have s2 := side.calls H w
  rw [hW] at s1
  rw [hH] at s2
  have S1 := Aside0.mk s1
  have S2 := Aside0.mk s2
  clear s1 s2 hW hH
  go_enter Try.func7, Try.ntmps7
  go_wp2_with (first | (go_at_call 22; with_reducible refine S1.out.mono ?_; rintro e w1 ⟨rfl, rfl⟩) | (go_at_call 22; with_reducible refine S2.out.mono ?_; rintro e w1 ⟨rfl, rfl⟩))
  go_ret2
  have b2 := blk_new (w1.alloc (.map #[] 0)) (.cells #[.int .i64 W, .int .i64 H, .map (some w1.heap.size)] 52)
  rw [World.size_alloc] at b2
  exact ⟨w1.heap.size + 1, w1.heap.size, rfl, ⟨b2, (OwnE.made w1).kept (World.grownBy_alloc _ _ none) (by simp)⟩, by omega, Nat.le_refl _, ((Below.refl _ w1).alloc (Nat.le_refl _) _).alloc (by simp) _⟩
set_option maxHeartbeats 2000000 in
set_option maxRecDepth 100000 in
theorem New_no.calls (W H : Int) (w : World) (hWH : (sideB W && sideB H) = false) :
    Calls Try.prog 7 #[.int .i64 W, .int .i64 H] w fun e w' => e = .returned (.tuple #[.pointer none, .int .i64 201]) ∧ w' = w := by
  have s1 := side.calls W w
  have s2 := side.calls H w
  cases hW : sideB W with
  | false =>
    rw [hW] at s1
    have S1 := Aside0.mk s1
    clear s1 s2 hW hWH
    go_enter Try.func7, Try.ntmps7
    go_wp2_with (go_at_call 22; with_reducible refine S1.out.mono ?_; rintro e w1 ⟨rfl, rfl⟩)
    go_ret2
    exact ⟨rfl, rfl⟩
  | true =>
    have hH : sideB H = false := by rw [hW] at hWH; simpa using hWH
    rw [hW] at s1
    rw [hH] at s2
    have S1 := Aside0.mk s1
    have S2 := Aside0.mk s2
    clear s1 s2 hW hH hWH
    go_enter Try.func7, Try.ntmps7
    go_wp2_with (first | (go_at_call 22; with_reducible refine S1.out.mono ?_; rintro e w1 ⟨rfl, rfl⟩) | (go_at_call 22; with_reducible refine S2.out.mono ?_; rintro e w1 ⟨rfl, rfl⟩))
    go_ret2
    exact ⟨rfl, rfl⟩
end Go.Proofs.Ytpljnkfbcgdafaa.P
