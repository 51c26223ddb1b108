/- The pure side of the law ReorderTells. -/
import Derived.Test.YtbkgggcpkiddmaaP16
import Derived.Test.YtbkgggcpkiddmaaPureMore
namespace Go.Proofs.Ytbkgggcpkiddmaa.Pure
open Go.RowKit Go.Proofs.Ytbkgggcpkiddmaa.P Go.Proofs.YtbkgggcpkiddmaaW.PrintWords Go.Proofs.YtbkgggcpkiddmaaW.PrintLast
set_option linter.unusedVariables false
set_option linter.unusedSimpArgs false
theorem tells_j0 (k : Nat) (hk : 39000 ≤ k) (l0 l1 : List Int) (b : Bool) (h0 : l0.length ≤ 200) (h1 : l1.length ≤ 200) : frisketlaw14_ReorderTells.j0 k l0 l1 b false = some true := by
  obtain ⟨k, rfl⟩ : ∃ q, k = q + 1 := ⟨k - 1, by omega⟩
  have ho := order_f l0 (by omega)
  have hro := refOrder_f l0 h0 k (by omega)
  have ha := apply_f l0 (by omega) b k (by omega)
  have hra := refApply_f l0 h0 b k (by omega)
  have hb := back_f l1 (by omega) k (by omega)
  have hrb := refBack_f l1 h1 k (by omega)
  have al := alive14 k (by omega)
  have n1 := ordA_len l0
  have n2 : (applyA (ordA l0) b).1.length ≤ l0.length := by
    unfold applyA
    cases b with
    | true => rw [if_pos rfl]; simpa using n1
    | false => rw [if_neg (by decide)]; exact n1
  have n3 : (backA l1).1.length ≤ l1.length := by
    unfold backA
    exact bkL_len l1.length l1 0 _ l1.length (by simp)
  generalize ordA l0 = R at *
  generalize applyA R b = S at *
  generalize backA l1 = U at *
  rw [frisketlaw14_ReorderTells.j0, if_neg (by decide)]
  have i1 := ints_eq R.1 (by omega) k (by omega)
  have i2 := ints_eq S.1 (by omega) k (by omega)
  have i3 := ints_eq U.1 (by omega) k (by omega)
  have i4 := ints_eq l0 (by omega) k (by omega)
  simp only [Option.bind_some, List.length_nil, Nat.zero_add, List.nil_append]
  rw [if_pos (by omega)]
  simp only [ho, hro, ha, hra, hb, hrb, al, Option.bind_some, i1, i2, i3, i4, if_true]
theorem ReorderTells : ∀ (l0 : List Int) (l1 : List Int) (a2 : Bool), l0.length * 8 ≤ 140737488351232 → l0.length ≤ maxLen → (∀ e ∈ l0, (Lit.int .i64 e).wf = true) → l1.length * 8 ≤ 140737488351232 → l1.length ≤ maxLen → (∀ e ∈ l1, (Lit.int .i64 e).wf = true) → ∃ k, frisketlaw14_ReorderTells.f k l0 l1 a2 = some true := by
  intro l0 l1 b _ _ _ _ _ _
  have ht : frisketlaw14_ReorderTells.j0 39001 l0 l1 b true = some true := by
    have al := alive14 39000 (by omega)
    rw [show (39001 : Nat) = 39000 + 1 from rfl, frisketlaw14_ReorderTells.j0, if_pos rfl, al, Option.bind_some]
  refine ⟨39001, ?_⟩
  unfold frisketlaw14_ReorderTells.f
  by_cases c : (l0.length : Int) > 200
  · rw [if_pos c]; exact ht
  · rw [if_neg c]
    by_cases d : (l1.length : Int) > 200
    · rw [decide_eq_true d]; exact ht
    · rw [decide_eq_false d]
      exact tells_j0 39001 (by omega) l0 l1 b (by omega) (by omega)
end Go.Proofs.Ytbkgggcpkiddmaa.Pure
