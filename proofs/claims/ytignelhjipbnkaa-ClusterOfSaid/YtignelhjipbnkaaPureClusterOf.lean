/- The pure side of the law ClusterOf: at every steps and scalar its Lean function answers true. -/
import Derived.Test.YtignelhjipbnkaaP25
import Derived.Test.YtignelhjipbnkaaPureOf
import Derived.Laws.BitsLemmas
namespace Go.Proofs.Ytignelhjipbnkaa.Pure
open Go.RowKit Go.Proofs.Ytignelhjipbnkaa.P Go.Proofs.YtignelhjipbnkaaW.PrintWords Go.Proofs.YtignelhjipbnkaaW.PrintLast Go.Proofs.YtignelhjipbnkaaW.PrintMore
set_option linter.unusedVariables false
set_option linter.unusedSimpArgs false

theorem and7 (n : Int) : Go.bits .and .i64 n 7 = n % 8 := by
  have h7 : (BitVec.ofInt 64 7).toNat = 2 ^ 3 - 1 := by decide
  have key : (BitVec.ofInt 64 n &&& BitVec.ofInt 64 7).toNat = (n % ((2 ^ 64 : Nat) : Int)).toNat % 2 ^ 3 := by
    rw [BitVec.toNat_and, BitVec.toNat_ofInt, h7, Nat.and_two_pow_sub_one_eq_mod]
  show IntKind.i64.wrap ((BitVec.ofInt 64 n &&& BitVec.ofInt 64 7).toNat : Nat) = n % 8
  rw [key, IntKind.wrap_i64]
  omega
theorem co_l0 (s : List Int) (a : Int) (d : Nat) : ∀ (j k : Nat) (x : List Int), 120 - j = d → j ≤ 120 → x.length = j + 1 → Asc x → 0 ≤ rd x (j : Int) → rd x (j : Int) ≤ 8 * j → d + 1000 ≤ k → frisketlaw05_ClusterOf.l0 k s a x j = some true := by
  have fin : ∀ (k j : Nat) (x : List Int), x.length = j + 1 → j ≤ 120 → Asc x → 900 ≤ k → frisketlaw05_ClusterOf.j1 (k + 1) a x = some true := by
    intro k j x hl hj hA hk
    simp only [frisketlaw05_ClusterOf.j1]
    rw [alive05 k (by omega), Option.bind_some, if_pos rfl]
    obtain ⟨k, rfl⟩ : ∃ q, k = q + 2 := ⟨k - 2, by omega⟩
    rw [of_nil]
    by_cases ha : a < 0
    · rw [of_low x a ha, Option.bind_some, refOf_low x a ha, Option.bind_some, if_pos rfl, Option.bind_some]; rfl
    · obtain ⟨r, h1, h2⟩ := of_f x (by omega) hA a (by omega) (k + 2) (by omega)
      obtain ⟨r', h1', h2'⟩ := refOf_f x (by omega) hA a (by omega) (k + 2) (by omega)
      rw [h1, Option.bind_some, h1', Option.bind_some, if_pos (isOf_uniq h2 h2'), Option.bind_some]; rfl
  induction d with
  | zero =>
    intro j k x hd hj hl hA h0 h8 hk
    obtain ⟨k, rfl⟩ : ∃ q, k = q + 2 := ⟨k - 2, by omega⟩
    rw [frisketlaw05_ClusterOf.l0]
    rw [if_neg (show ¬ (j : Int) < 120 by omega)]
    split
    · exact fin k j x hl hj hA (by omega)
    · exact fin k j x hl hj hA (by omega)
  | succ d ih =>
    intro j k x hd hj hl hA h0 h8 hk
    obtain ⟨k, rfl⟩ : ∃ q, k = q + 2 := ⟨k - 2, by omega⟩
    rw [frisketlaw05_ClusterOf.l0]
    by_cases c : (j : Int) < (s.length : Int)
    · have e2 : wrap64 ((j : Int) + 1) = ((j + 1 : Nat) : Int) := (w64 (by omega) (by omega)).trans (by omega)
      have e3 : wrap64 ((x.length : Int) - 1) = (j : Int) := (w64 (by omega) (by omega)).trans (by omega)
      rw [if_pos c, if_pos (by omega), e2, e3, and7]
      clear e2 e3
      obtain ⟨m, hm⟩ : ∃ m, rd s (j : Int) % 8 = m := ⟨_, rfl⟩
      have hm0 : 0 ≤ m ∧ m < 8 := by omega
      rw [hm]
      have e4 : wrap64 (wrap64 (rd x (j : Int) + 1) + m) = rd x (j : Int) + 1 + m := by rw [w64 (a := rd x (j : Int) + 1) (by omega) (by omega), w64 (by omega) (by omega)]
      rw [e4, if_pos (by omega), if_pos (by omega), if_pos (by omega), if_pos (by omega)]
      clear e4
      have hv : rd (x ++ [rd x (j : Int) + 1 + m]) ((j + 1 : Nat) : Int) = rd x (j : Int) + 1 + m := by rw [← hl, rd_snoc]
      refine ih (j + 1) (k + 1) _ (by omega) (by omega) (by simp [hl]) (asc_snoc x _ hA (fun q hq => ?_)) (by rw [hv]; omega) (by rw [hv]; omega) (by omega)
      by_cases e : q = j
      · rw [e]; omega
      · have := hA q j (by omega) (by omega); omega
    · rw [if_neg c]
      exact fin k j x hl hj hA (by omega)
theorem ClusterOf : ∀ (l0 : List Int) (a1 : Int), l0.length * 8 ≤ 140737488351232 → l0.length ≤ maxLen → (∀ e ∈ l0, (Lit.int .i64 e).wf = true) → (Lit.int .i64 a1).wf = true → ∃ k, frisketlaw05_ClusterOf.f k l0 a1 = some true := by
  intro l a _ _ _ _
  refine ⟨2000, ?_⟩
  unfold frisketlaw05_ClusterOf.f
  exact co_l0 l a 120 0 2000 [0] (by omega) (by omega) rfl (fun i j h1 h2 => by simp at h2; omega) (by decide) (by decide) (by omega)
end Go.Proofs.Ytignelhjipbnkaa.Pure
