/- The pure side of the law ClusterStarts: at every joins and place its Lean function answers true. -/
import Derived.Test.YtignelhjipbnkaaP23
import Derived.Test.YtignelhjipbnkaaPureBreak
namespace Go.Proofs.Ytignelhjipbnkaa.Pure
open Go.RowKit Go.Proofs.Ytignelhjipbnkaa.P Go.Proofs.YtignelhjipbnkaaW.PrintWords Go.Proofs.YtignelhjipbnkaaW.PrintLast Go.Proofs.YtignelhjipbnkaaW.PrintMore
set_option linter.unusedVariables false
set_option linter.unusedSimpArgs false

theorem cs_l0 (l : List Int) (hl : l.length ≤ 120) (a : Int) (d : Nat) : ∀ (j k : Nat), l.length - j = d → d + 600 ≤ k → frisketlaw05_ClusterStarts.l0 k l a ([] ++ l) (stP l) true j = some true := by
  have hl' : l.length ≤ 1099511627776 := by omega
  have hs : (stP l).length ≤ l.length := stL_len l l.length 0
  have fin : ∀ k : Nat, 400 ≤ k → frisketlaw05_ClusterStarts.j1 (k + 1) l a (stP l) true = some true := by
    intro k hk
    simp only [frisketlaw05_ClusterStarts.j1]
    rw [alive05 k (by omega), Option.bind_some, if_pos rfl, if_pos trivial, refStarts_f l hl' k (by omega), Option.bind_some, ints_eq _ _ rfl (by omega) k (by omega), Option.bind_some, if_pos rfl, break_f l hl' a k (by omega), Option.bind_some, refBreak_f l hl' a k (by omega), Option.bind_some]
    simp
  induction d with
  | zero =>
    intro j k hd hk
    obtain ⟨k, rfl⟩ : ∃ q, k = q + 2 := ⟨k - 2, by omega⟩
    simp only [frisketlaw05_ClusterStarts.l0]
    rw [if_neg (by simp only [List.nil_append]; omega)]
    exact fin k (by omega)
  | succ d ih =>
    intro j k hd hk
    obtain ⟨k, rfl⟩ : ∃ q, k = q + 1 := ⟨k - 1, by omega⟩
    have e2 : wrap64 ((j : Int) + 1) = ((j + 1 : Nat) : Int) := (w64 (by omega) (by omega)).trans (by omega)
    have h1 := ih (j + 1) k (by omega) (by omega)
    simp only [List.nil_append] at h1
    simp only [frisketlaw05_ClusterStarts.l0, List.nil_append]
    rw [if_pos (by omega), if_pos trivial, if_pos (by omega), if_pos (by omega), e2, beq_self_eq_true]
    exact h1
theorem ClusterStarts : ∀ (l0 : List Int) (a1 : Int), l0.length * 8 ≤ 140737488351232 → l0.length ≤ maxLen → (∀ e ∈ l0, (Lit.int .i64 e).wf = true) → (Lit.int .i64 a1).wf = true → ∃ k, frisketlaw05_ClusterStarts.f k l0 a1 = some true := by
  intro l a _ _ _ _
  refine ⟨1000, ?_⟩
  unfold frisketlaw05_ClusterStarts.f
  by_cases h : (l.length : Int) > 120
  · rw [if_pos h, alive05 1000 (by decide)]
    rfl
  · have hl : l.length ≤ 120 := by omega
    rw [if_neg h, Option.bind_some, if_pos (show ([] : List Int).length + l.length < 17592186044416 by simp only [List.length_nil]; omega), Option.bind_some, starts_f l (by omega), Option.bind_some]
    have e : ((l.length : Int) == ((([] : List Int) ++ l).length : Int)) = true := by simp
    rw [e]
    exact cs_l0 l hl a l.length 0 1000 (by omega) (by omega)
end Go.Proofs.Ytignelhjipbnkaa.Pure
