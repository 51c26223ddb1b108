/- The pure side of the law NeutralTurned. -/
import Derived.Test.YtplindcfnlonbaaP18
import Derived.Test.YtplindcfnlonbaaPureAll
namespace Go.Proofs.Ytplindcfnlonbaa.Pure
open Go.RowKit Go.Proofs.Ytplindcfnlonbaa.P Go.Proofs.YtplindcfnlonbaaW.PrintWords Go.Proofs.YtplindcfnlonbaaW.PrintLast
/-- The list turned about. -/
def turned (l : List Int) : List Int := (List.range l.length).map (fun i => rd l ((l.length - 1 - i : Nat) : Int))
theorem turned_len (l : List Int) : (turned l).length = l.length := by simp [turned]
theorem rd_turned (l : List Int) (i : Nat) (h : i < l.length) : rd (turned l) (i : Int) = rd l ((l.length - 1 - i : Nat) : Int) := rdm (fun i => rd l ((l.length - 1 - i : Nat) : Int)) _ _ h
theorem ah_turned (l : List Int) (x : Int) : ∀ j : Nat, j ≤ l.length → ah (turned l) x j = be l x j (l.length - j)
  | 0, _ => rfl
  | j + 1, h => by
    rw [ah, be, rd_turned l j (by omega), ah_turned l x j (by omega), show l.length - 1 - j = l.length - (j + 1) by omega, show l.length - (j + 1) + 1 = l.length - j by omega]
theorem be_turned (l : List Int) (x : Int) : ∀ d : Nat, d ≤ l.length → be (turned l) x d (l.length - d) = ah l x d
  | 0, _ => rfl
  | d + 1, h => by
    rw [ah, be, rd_turned l (l.length - (d + 1)) (by omega), show l.length - (d + 1) + 1 = l.length - d by omega, be_turned l x d (by omega), show l.length - 1 - (l.length - (d + 1)) = d by omega]
theorem mid_comm (own a b : Int) : mid own a b = mid own b a := by
  unfold mid
  by_cases h : a = b
  · subst h; rfl
  · rw [if_neg (fun g => h g.1), if_neg (fun g => h g.1.symm)]
theorem sN_turned (l : List Int) (own fi la : Int) (i : Nat) (h : i < l.length) : sN (turned l) own la fi (l.length - 1 - i) = sN l own fi la i := by
  unfold sN
  rw [rd_turned l _ (by omega), show l.length - 1 - (l.length - 1 - i) = i by omega, turned_len]
  by_cases c : neu (rd l (i : Int)) = true
  · rw [if_pos c, if_pos c, ah_turned l la _ (by omega), show l.length - (l.length - 1 - i) = i + 1 by omega]
    have e := be_turned l fi (i + 1) (by omega)
    rw [show l.length - (i + 1) = l.length - 1 - i by omega] at e
    rw [e, ah, if_pos c, mid_comm]
    congr 1
    rw [show l.length - i = (l.length - 1 - i) + 1 by omega, be, if_pos c]
  · rw [if_neg c, if_neg c]
theorem nt_l1 (x y : List Int) (n : Nat) (hn : n ≤ 150) (hx : x.length = n) (hy : y.length = n) (h : ∀ i : Nat, i < n → rd x (i : Int) = rd y ((n - 1 - i : Nat) : Int)) : ∀ (d i k : Nat), i + d = n → 1000 + d ≤ k → frisketlaw12_NeutralTurned.l1 k x y (i : Int) = some true
  | 0, i, k, hi, hk => by
    obtain ⟨k, rfl⟩ : ∃ q, k = q + 1 := ⟨k - 1, by omega⟩
    rw [frisketlaw12_NeutralTurned.l1, if_neg (by omega), alive12 _ (by omega)]
    rfl
  | d + 1, i, k, hi, hk => by
    obtain ⟨k, rfl⟩ : ∃ q, k = q + 1 := ⟨k - 1, by omega⟩
    have e1 : Aside0 (wrap64 ((i : Int) + 1) = ((i + 1 : Nat) : Int)) := ⟨(w64 (by omega) (by omega)).trans (by omega)⟩
    have e2 : Aside0 (wrap64 (wrap64 ((y.length : Int) - 1) - (i : Int)) = ((n - 1 - i : Nat) : Int)) := ⟨by rw [w64 (a := (y.length : Int) - 1) (by omega) (by omega), w64 (by omega) (by omega)]; omega⟩
    rw [frisketlaw12_NeutralTurned.l1, if_pos (by omega), if_pos (by omega), e2.out, if_pos (by omega), if_pos (by omega), if_pos (h i (by omega)), e1.out]
    exact nt_l1 x y n hn hx hy h d (i + 1) k (by omega) (by omega)
theorem nt_l0 (l : List Int) (hl : l.length ≤ 150) (lv fi la : Int) : ∀ (d i k : Nat), i + d = l.length → 2000 + d ≤ k → frisketlaw12_NeutralTurned.l0 k l ((List.range i).map (fun i => rd l ((l.length - 1 - i : Nat) : Int))) (i : Int) lv fi la = some true
  | 0, i, k, hi, hk => by
    obtain ⟨k, rfl⟩ : ∃ q, k = q + 2 := ⟨k - 2, by omega⟩
    obtain rfl : i = l.length := by omega
    rw [show (List.range l.length).map (fun i => rd l ((l.length - 1 - i : Nat) : Int)) = turned l from rfl, frisketlaw12_NeutralTurned.l0, if_neg (by omega), seq12, Option.bind_some]
    simp only []
    have ht := turned_len l
    by_cases h : OkS lv fi la
    · have h' : OkS lv la fi := ⟨h.1, h.2.1, h.2.2.2, h.2.2.1⟩
      rw [settle_f l lv fi la h (by omega), Option.bind_some, settle_f (turned l) lv la fi h' (by omega), Option.bind_some, if_pos rfl]
      simp only []
      have e1 := SL_len (ownF lv) fi la l
      have e2 := SL_len (ownF lv) la fi (turned l)
      rw [show (((SL (ownF lv) fi la l).length : Int) != ((SL (ownF lv) la fi (turned l)).length : Int)) = false by rw [e1, e2, ht, bne_self_eq_false], frisketlaw12_NeutralTurned.j1, if_neg (by decide)]
      refine nt_l1 _ _ l.length hl e1 (e2.trans ht) (fun i hi => ?_) l.length 0 k (by omega) (by omega)
      rw [rd_SL _ _ _ _ _ hi, rd_SL _ _ _ _ _ (by omega), sN_turned l _ fi la i hi]
    · have h' : ¬ OkS lv la fi := fun g => h ⟨g.1, g.2.1, g.2.2.2, g.2.2.1⟩
      rw [settle_no l lv fi la h, Option.bind_some, settle_no (turned l) lv la fi h', Option.bind_some, if_pos rfl]
      simp only []
      rw [show ((([] : List Int).length : Int) != (([] : List Int).length : Int)) = false from rfl, frisketlaw12_NeutralTurned.j1, if_neg (by decide)]
      exact nt_l1 [] [] 0 (by omega) rfl rfl (fun i hi => absurd hi (by omega)) 0 0 k (by omega) (by omega)
  | d + 1, i, k, hi, hk => by
    obtain ⟨k, rfl⟩ : ∃ q, k = q + 1 := ⟨k - 1, by omega⟩
    have e1 : Aside0 (wrap64 ((i : Int) + 1) = ((i + 1 : Nat) : Int)) := ⟨(w64 (by omega) (by omega)).trans (by omega)⟩
    have e2 : Aside0 (wrap64 (wrap64 ((l.length : Int) - 1) - (i : Int)) = ((l.length - 1 - i : Nat) : Int)) := ⟨by rw [w64 (a := (l.length : Int) - 1) (by omega) (by omega), w64 (by omega) (by omega)]; omega⟩
    have ih := nt_l0 l hl lv fi la d (i + 1) k (by omega) (by omega)
    rw [rm_succ] at ih
    rw [frisketlaw12_NeutralTurned.l0, if_pos (by omega), e2.out, if_pos (by omega), if_pos (by omega), if_pos (by rw [List.length_map, List.length_range]; omega), e1.out]
    exact ih
theorem NeutralTurned : ∀ (l0 : List Int) (a1_0 : Int) (a1_1 : Int) (a1_2 : Int), l0.length * 8 ≤ 140737488351232 → l0.length ≤ maxLen → (∀ e ∈ l0, (Lit.int .i64 e).wf = true) → (Lit.int .i64 a1_0).wf = true → (Lit.int .i64 a1_1).wf = true → (Lit.int .i64 a1_2).wf = true → ∃ k, frisketlaw12_NeutralTurned.f k l0 a1_0 a1_1 a1_2 = some true := by
  intro l lv fi la _ _ _ _ _ _
  refine ⟨3000, ?_⟩
  unfold frisketlaw12_NeutralTurned.f
  by_cases c : (l.length : Int) > 150
  · rw [if_pos c, alive12 _ (by omega)]; rfl
  · rw [if_neg c]
    exact nt_l0 l (by omega) lv fi la l.length 0 3000 (by omega) (by omega)
end Go.Proofs.Ytplindcfnlonbaa.Pure
