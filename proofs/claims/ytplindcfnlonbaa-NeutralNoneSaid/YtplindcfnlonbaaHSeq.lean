/- A range over a function whose iterator also writes memory of its own between two rounds (a struct variable), and whose body never leaves; no condition. -/
import Derived.RangeFuncBox
import Derived.RangeFuncLeaves
import Derived.Shelf.Abstract
import Derived.WalkKit
import Derived.OwnWalkIn
import Derived.TacticsInMore
import Derived.LoopNIn
import Derived.LoopIn
import Derived.Maps.AppendAt
import Derived.Maps.OwnIn
import Derived.RangeFuncNested
namespace Go.Proofs.Ytplindcfnlonbaa.P
open Go.RowKit Go.Shelf
set_option linter.unusedVariables false
variable {F : Fence} {n : Nat} {P : Program}
/-- The iterator's contract: what it does to the heap between two rounds is a Step, and whatever the caller says of the world abides a Step. -/
def SeqW {α : Type} (F : Fence) (n : Nat) (P : Program) (g : Nat) (lb : Array Value) (encs : α → Array Value) (Kp : World → World → Prop) (Step : World → World → World → Prop) (S : List α → Prop) (Ok : List α → α → Prop) (w0 : World) : Prop :=
  ∀ (l : Nat) (J : List α → World → Prop) (W : World), Below w0.heap.size w0 W → (∀ s A B, J s A → Step W A B → J s B) →
    (∀ pre x A, J pre A → Ok pre x → YieldAt F (n - 1) P l (encs x) A fun e A' => e = .returned (.bool true) ∧ J (pre ++ [x]) A' ∧ Kp A A') →
    J [] W → CallsIn F n P g (#[.func (.yield l) #[] #[]] ++ lb) W fun e W' => (∃ v, e = .returned v) ∧ ∃ xs, S xs ∧ J xs W'
/-- A round's end where the body goes on. -/
def onW {α : Type} (B : Nat) (Kp : World → World → Prop) (I : List α → World → Prop) (xs : List α) (W : World) : Exit → Act → World → Prop
  | .normal, _, W' => KeepsFrom B W W' ∧ Kp W W' ∧ I xs W'
  | _, _, _ => False
theorem rangeFunc_W {α : Type} {g : Operand} {ps : Array Tmp} {assign body : Code} {Q : Exit → Act → World → Prop} {a : Act} {w : World} (hro : F.round = none) (h1 : 1 ≤ n) {gf : Nat} {lb : Array Value} (hg : a.eval g = .func (.func gf) #[] lb) (hFg : F.fn gf)
    (eg : ∀ args w, (callFunc gf args).run P w = .ok (.enter gf args) w) {encs : α → Array Value} {Kp : World → World → Prop} {Step : World → World → World → Prop} {S : List α → Prop} {Ok : List α → α → Prop} {w0 : World} (hseq : SeqW F (n - 1) P gf lb encs Kp Step S Ok w0)
    (hKt : ∀ {A B C : World}, Kp A B → Kp B C → Kp A C) (hKb : ∀ (W : World) (l : Nat) (o o' : Obj), w.heap.size ≤ l → W.heap[l]? = some o → o.isCells = false → o.isWalk = false → Kp W (W.putObj l o')) (hb0 : Below w0.heap.size w0 w) (hps : ∀ x, (encs x).size = ps.size)
    (I : List α → World → Prop) (hIp : ∀ s (A : World) (l : Nat) (o o' : Obj), w.heap.size ≤ l → A.heap[l]? = some o → o.isCells = false → I s A → I s (A.putObj l o')) (hIa : ∀ s (A : World) (o : Obj), I s A → I s (A.alloc o))
    (hIs : ∀ (W : World) s (A B : World), w.heap.size ≤ W.heap.size → I s A → Step W A B → I s B) (hSk : ∀ (W A B : World), Step W A B → ∀ k o, k < W.heap.size → A.heap[k]? = some o → o.isCells = false → B.heap[k]? = some o) (h0 : I [] w) (a₁ : α → Act)
    (hassign : ∀ (l : Nat) (x : α) (W : World) (K : Act → World → Prop), K (a₁ x) W → assign.wpIn (F.inRound l) (n - 1 - 1) P (Exit.then K (fun _ _ _ => False)) { tmps := (ps.zip (encs x)).foldl (fun t (p, v) => t.setIfInBounds p v) a.tmps, defers := [] } W)
    (hbody : ∀ (l : Nat) (pre : List α) (x : α) (W : World), I pre W → Ok pre x → body.wpIn (F.inRound l) (n - 1 - 1) P (onW w.heap.size Kp I (pre ++ [x]) W) (a₁ x) W)
    (hdone : ∀ (D : Nat) (xs : List α) (W : World), w.heap.size ≤ D → S xs → I xs W → W.heap[D]? = some (.deferred (some [])) → Q .normal { a with defers := { target := .collected D, args := #[] } :: a.defers } W) :
    (Code.rangeFunc g ps assign body).wpIn F n P Q a w := by
  refine wpIn_rangeFunc fun fn hfn => ?_
  rw [hro]
  -- the record in its states, and the world in which it stands first
  let R : LoopState → Loop := fun st => { state := st, pending := none, fn, tmps := a.tmps, params := ps, assign, body, defers := w.heap.size }
  let W1 : World := (w.alloc (.deferred (some []))).alloc (.loop (R .ready))
  have s1 : W1.heap.size = w.heap.size + 2 := by simp [W1]
  have r1 : W1.heap[w.heap.size + 1]? = some (.loop (R .ready)) := by
    have h := World.alloc_heap_new (w.alloc (.deferred (some []))) (.loop (R .ready))
    rwa [World.size_alloc] at h
  have d1 : W1.heap[w.heap.size]? = some (.deferred (some [])) := (Below.heap_alloc _ _ _ (by simp)).trans (World.alloc_heap_new w _)
  have i1 : I [] W1 := hIa _ _ _ (hIa _ _ _ h0)
  have b1 : Below w0.heap.size w0 W1 := hb0.trans ((((Below.refl _ w).alloc (Nat.le_refl _) _).alloc (by simp) _).mono hb0.size)
  refine ⟨w.heap.size + 1, [{ target := .collected w.heap.size, args := #[] }], W1, { target := .fn (.func gf) lb, args := #[.func (.yield (w.heap.size + 1)) #[] #[]] }, W1, gf, #[.func (.yield (w.heap.size + 1)) #[] #[]] ++ lb, W1, run_enterLoop_outer _ _ _ _ _, ?_, ?_, ?_, fun _ => h1, ?_⟩
  · simp only [resolve, hg]
    simp [go_sem]
  · intro f' hf'
    simp [Target.leads] at hf'
    subst hf'
    exact hFg
  · simp [invoke, go_sem, eg]
  · refine (hseq (w.heap.size + 1) (fun pre A => I pre A ∧ A.heap[w.heap.size + 1]? = some (.loop (R .ready)) ∧ A.heap[w.heap.size]? = some (.deferred (some []))) W1 b1 (fun s A B h hs => ⟨hIs W1 s A B (by omega) h.1 hs, hSk W1 A B hs _ _ (by omega) h.2.1 rfl, hSk W1 A B hs _ _ (by omega) h.2.2 rfl⟩) ?_ ⟨i1, r1, d1⟩).mono ?_
    · rintro pre x A ⟨hi, hr, hd⟩ hlen
      have hlt := (Array.getElem?_eq_some_iff.1 hr).1
      refine ⟨fn, _, assign, body, run_yield hr (hps x), roundIn_of_wpIn hfn (hassign _ x A _ ⟨_, run_beginRound hr rfl, ?_⟩)⟩
      have r2 : (A.putObj (w.heap.size + 1) (.loop { R .ready with state := .busy })).heap[w.heap.size + 1]? = some (.loop { R .ready with state := .busy }) := World.putObj_heap_same hlt
      have d2 : (A.putObj (w.heap.size + 1) (.loop { R .ready with state := .busy })).heap[w.heap.size]? = some (.deferred (some [])) := (World.putObj_heap_other (by omega)).trans hd
      refine wpIn_mono (hbody _ pre x _ (hIp _ _ _ _ _ (by omega) hr rfl hi) hlen) ?_
      intro e a3 W3 hp
      cases e with
      | normal =>
        obtain ⟨k3, kp3, i3⟩ := hp
        have r3 := k3.same _ _ (by omega) r2 rfl
        have d3 := k3.same _ _ (Nat.le_refl _) d2 rfl
        exact ⟨_, _, run_endRound none r3, rfl, ⟨hIp _ _ _ _ _ (by omega) r3 rfl i3, World.putObj_heap_same (Array.getElem?_eq_some_iff.1 r3).1, (World.putObj_heap_other (by omega)).trans d3⟩, hKt (hKt (hKb _ _ _ _ (by omega) hr rfl rfl) kp3) (hKb _ _ _ _ (by omega) r3 rfl rfl)⟩
      | _ => exact hp.elim
    · rintro e W2 ⟨⟨v, rfl⟩, xs, hS, hi, hr, hd⟩
      exact ⟨none, _, run_endLoop hr (by simp [R]), hdone _ xs _ (Nat.le_refl _) hS (hIp _ _ _ _ _ (by omega) hr rfl hi) ((World.putObj_heap_other (by omega)).trans hd)⟩
end Go.Proofs.Ytplindcfnlonbaa.P
