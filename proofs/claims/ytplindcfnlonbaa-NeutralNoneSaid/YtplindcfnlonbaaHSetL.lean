/- neutral.Settle's walk. -/
import Derived.Test.YtplindcfnlonbaaHSetDef
import Derived.RangeFuncCalls
namespace Go.Proofs.Ytplindcfnlonbaa.P
open Go.RowKit Go.Shelf Go.Proofs.YtplindcfnlonbaaW.PrintWords Go.Proofs.YtplindcfnlonbaaW.PrintLast Go.Proofs.YtplindcfnlonbaaW.PrintMore
set_option linter.unusedVariables false
set_option linter.unusedSimpArgs false
attribute [local go_sem] Oper.semAt_some

theorem KG.p {n₀ g : Nat} {w A B : World} (h : KG n₀ g A B) (hn : n₀ ≤ w.heap.size) (l : Nat) (o o' : Obj) (hl : w.heap.size ≤ l) (hk : B.heap[l]? = some o) (hc : o.isCells = false) : KG n₀ g A (B.putObj l o') := by
  refine h.t ⟨(Below.refl n₀ B).grown (grownBy_putObj' B l o') (by have := blk_lt hk; omega) (fun k e => by cases e; omega), fun k o1 hk1 hc1 _ => ?_⟩
  rw [World.putObj_heap_other (fun e => by subst e; rw [hk] at hk1; cases hk1; rw [hc] at hc1; cases hc1)]
  exact hk1
theorem KG.alloc {n₀ g : Nat} {A B : World} (h : KG n₀ g A B) (hn : n₀ ≤ A.heap.size) (o : Obj) : KG n₀ g A (B.alloc o) :=
  ⟨h.bel.alloc (Nat.le_trans hn h.bel.size) o, fun k o1 hk hc hg => blk_alloc (h.keep k o1 hk hc hg) o⟩
theorem KG.step {n₀ g : Nat} {A B C : World} (h : KG n₀ g A B) (hn : n₀ ≤ A.heap.size) (hb : Below B.heap.size B C) : KG n₀ g A C :=
  ⟨h.bel.trans (hb.mono (Nat.le_trans hn h.bel.size)), fun k o1 hk hc hg => blk_below (h.keep k o1 hk hc hg) hb⟩
theorem lead {w : World} {n c : Nat} {A : Option Addr} {l : List Int} {base : Nat} (h : Row w base (.slice A n c) l) (hn : l.length = n) (hb : base ≤ w.heap.size) : ∃ g, base ≤ g ∧ g ≠ w.heap.size ∧ g ≠ w.heap.size + 1 ∧ (0 < n → A = some ⟨g, 0, none⟩) := by
  by_cases h0 : 0 < n
  · obtain ⟨g, e, h1, _⟩ := row_open h hn h0
    subst e
    have := row_at h 0 h0
    have hlt : g < w.heap.size := World.block_lt_of_cell? w _ this.1
    exact ⟨g, h1, by omega, by omega, fun _ => rfl⟩
  · exact ⟨w.heap.size + 2, by omega, by omega, by omega, fun h => absurd h h0⟩
theorem wpIn_one {F : Fence} {n : Nat} {P : Program} {c : Code} {Q : Exit → Act → World → Prop} {a : Act} {w : World} {A : Act} {W' : World} (h : c.wpIn F n P (fun e a' w' => e = .normal ∧ a' = A ∧ w' = W') a w) (k : Q .normal A W') : c.wpIn F n P Q a w :=
  wpIn_mono h (by rintro _ _ _ ⟨rfl, rfl, rfl⟩; exact k)
theorem row_weak {w : World} {u : Value} {l : List Int} {b b' : Nat} (h : Row w b u l) (hb : b' ≤ b) : Row w b' u l := Kd.R_lower h hb
end Go.Proofs.Ytplindcfnlonbaa.P
