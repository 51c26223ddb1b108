/- Both Settles and both Raises. -/
import Derived.Test.YtplindcfnlonbaaP9
import Derived.Test.YtplindcfnlonbaaP10
import Derived.Test.YtplindcfnlonbaaP7
import Derived.Test.YtplindcfnlonbaaPureRef
namespace Go.Proofs.Ytplindcfnlonbaa.Pure
open Go.RowKit Go.Proofs.Ytplindcfnlonbaa.P Go.Proofs.YtplindcfnlonbaaW.PrintWords Go.Proofs.YtplindcfnlonbaaW.PrintLast Go.Proofs.YtplindcfnlonbaaW.PrintMore
set_option linter.unusedVariables false
set_option linter.unusedSimpArgs false
theorem alive12 (k : Nat) (hk : 60 ≤ k) : frisketlaw12_alive.f k = some true := by
  have h : frisketlaw12_alive.f 60 = some true := by decide +kernel
  exact at_rounds (g := fun k => frisketlaw12_alive.f k) (fun k => frisketlaw12_alive.mono k) hk h
theorem seq12 (a b c : Int) : frisketlaw12_seq.f a b c = some (a, b, c) := rfl
theorem settleBoth (l : List Int) (hl : l.length ≤ 1000000) (lv fi la : Int) : ∃ R : List Int × Int, neutral_Settle.f l lv fi la = some R ∧ (∀ k, 3 * l.length + 14 ≤ k → frisketref12_Settle.f k l lv fi la = some R) ∧ R.1.length ≤ l.length := by
  by_cases h : OkS lv fi la
  · exact ⟨_, settle_f l lv fi la h (by omega), fun k hk => refSettle_f l hl lv fi la h k hk, Nat.le_of_eq (SL_len _ _ _ _)⟩
  · refine ⟨([], 1), settle_no l lv fi la h, fun k hk => ?_, Nat.zero_le _⟩
    obtain ⟨k, rfl⟩ : ∃ q, k = q + 1 := ⟨k - 1, by omega⟩
    exact refSettle_no l lv fi la h k
theorem raiseBoth (l : List Int) (hl : l.length ≤ 1000000) (lv : Int) : ∃ R : List Int × Int, (∀ k, l.length + 4 ≤ k → neutral_Raise.f k l lv = some R) ∧ (∀ k, 4 * l.length + 8 ≤ k → frisketref12_Raise.f k l lv = some R) ∧ R.1.length ≤ l.length := by
  by_cases h : 0 ≤ lv ∧ lv ≤ 125
  · exact ⟨_, fun k hk => raise_f l (by omega) lv h.1 h.2 k hk, fun k hk => refRaise_f l hl lv h.1 h.2 k hk, Nat.le_of_eq (RL_len _ _)⟩
  · refine ⟨([], 1), fun k hk => ?_, fun k hk => ?_, Nat.zero_le _⟩
    · obtain ⟨k, rfl⟩ : ∃ q, k = q + 1 := ⟨k - 1, by omega⟩
      exact raise_no l lv h k
    · obtain ⟨k, rfl⟩ : ∃ q, k = q + 1 := ⟨k - 1, by omega⟩
      exact refRaise_no l lv h k
theorem own_01 (lv : Int) : ownF lv = 0 ∨ ownF lv = 1 := by unfold ownF; split <;> simp
theorem neu_01 {x : Int} (h : x = 0 ∨ x = 1) : neu x = false := by rcases h with rfl | rfl <;> rfl
theorem sN_neu (l : List Int) (own fi la : Int) (ho : own = 0 ∨ own = 1) (hf : fi = 0 ∨ fi = 1) (i : Nat) : neu (sN l own fi la i) = false := by
  unfold sN
  split
  · exact neu_01 (mid_cases own _ _ ho (ah_cases l fi hf i))
  · rename_i h; simpa using h
theorem list_ext {a b : List Int} (h : a.length = b.length) (he : ∀ i : Nat, i < a.length → rd a (i : Int) = rd b (i : Int)) : a = b := by
  refine List.ext_getElem h (fun i h1 h2 => ?_)
  have := he i h1
  rwa [rd_at _ i h1, rd_at _ i h2] at this
theorem SL_twice (l : List Int) (own fi la : Int) (ho : own = 0 ∨ own = 1) (hf : fi = 0 ∨ fi = 1) : SL own fi la (SL own fi la l) = SL own fi la l := by
  refine list_ext (SL_len _ _ _ _) (fun i hi => ?_)
  rw [SL_len] at hi
  rw [rd_SL _ _ _ _ _ hi]
  rw [SL_len] at hi
  refine sN_keep _ _ _ _ _ ?_
  rw [rd_SL _ _ _ _ _ hi]
  exact sN_neu l own fi la ho hf i
end Go.Proofs.Ytplindcfnlonbaa.Pure
