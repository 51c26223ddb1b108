/- The pure side of the law ClusterCut: at every joins and place its Lean function answers true. -/
import Derived.Test.YtignelhjipbnkaaP26
import Derived.Test.YtignelhjipbnkaaPureBreak
namespace Go.Proofs.Ytignelhjipbnkaa.Pure
open Go.RowKit Go.Proofs.Ytignelhjipbnkaa.P Go.Proofs.YtignelhjipbnkaaW.PrintWords Go.Proofs.YtignelhjipbnkaaW.PrintLast Go.Proofs.YtignelhjipbnkaaW.PrintMore
set_option linter.unusedVariables false
set_option linter.unusedSimpArgs false

theorem rd_take (l : List Int) (n j : Nat) (h : j < n) : rd (l.take n) (j : Int) = rd l (j : Int) := by
  unfold rd
  rw [Int.toNat_natCast, List.getD_eq_getElem?_getD, List.getD_eq_getElem?_getD, List.getElem?_take, if_pos h]
theorem rd_drop (l : List Int) (n j : Nat) : rd (l.drop n) (j : Int) = rd l ((n + j : Nat) : Int) := by
  unfold rd
  rw [Int.toNat_natCast, Int.toNat_natCast, List.getD_eq_getElem?_getD, List.getD_eq_getElem?_getD, List.getElem?_drop]
theorem sS_take (l : List Int) (n : Nat) : ∀ j : Nat, j ≤ n → sS (l.take n) j = sS l j
  | 0, _ => rfl
  | j + 1, h => by rw [sS, sS, sS_take l n j (by omega), rd_take l n j (by omega)]
theorem brB_take (l : List Int) (n j : Nat) (h : j < n) : brB (l.take n) j = brB l j := by
  unfold brB
  rw [sS_take l n j (by omega), rd_take l n j h]
/-- Behind a break the state is as at the begin. -/
theorem then_brk (s : Int × Bool × Bool) (b : Int) (h : brkS s.1 s.2.1 s.2.2 b = true) : thenF s b = thenF (3, false, false) b := by
  obtain ⟨a, p, o⟩ := s
  rw [then_eq, then_eq]
  unfold brkS at h
  simp only at h ⊢
  by_cases b14 : b = 14
  · subst b14; simp
  · by_cases b6 : b = 6
    · subst b6
      by_cases a6 : a = 6
      · subst a6
        cases o with
        | false => simp
        | true =>
          simp [endB, sylB] at h
      · simp [a6]
    · by_cases b4 : b = 4
      · subst b4
        by_cases a4 : a = 4
        · subst a4; simp [endB, sylB] at h
        · by_cases a14 : a = 14
          · subst a14; simp [endB, sylB] at h
          · simp [a4, a14]
      · by_cases b5 : b = 5
        · subst b5
          by_cases a4 : a = 4
          · subst a4; simp [endB, sylB] at h
          · by_cases a14 : a = 14
            · subst a14; simp [endB, sylB] at h
            · simp [a4, a14]
        · rw [beq_eq_false_iff_ne.2 b14, beq_eq_false_iff_ne.2 b6, beq_eq_false_iff_ne.2 b4, beq_eq_false_iff_ne.2 b5]
          simp
theorem sS_drop (l : List Int) (n : Nat) (h : brB l n = true) : ∀ j : Nat, sS (l.drop n) (j + 1) = sS l (n + j + 1)
  | 0 => by
    rw [sS, sS, rd_drop, show n + 0 = n from rfl]
    exact (then_brk _ _ h).symm
  | j + 1 => by
    rw [sS, sS_drop l n h j, rd_drop]
    rfl
theorem brB_drop (l : List Int) (n : Nat) (h : brB l n = true) : ∀ j : Nat, brB (l.drop n) j = brB l (n + j)
  | 0 => by rw [brB_0, show n + 0 = n from rfl, h]
  | j + 1 => by
    unfold brB
    rw [sS_drop l n h j, rd_drop]
    rfl
theorem stL_congr (l m : List Int) (s : Nat) : ∀ (d i : Nat), (∀ j : Nat, i ≤ j → j < i + d → brB m j = brB l (s + j)) → (stL m d i).map (fun v => v + (s : Int)) = stL l d (s + i)
  | 0, i, _ => rfl
  | d + 1, i, h => by
    have h1 := stL_congr l m s d (i + 1) (fun j h1 h2 => h j (by omega) (by omega))
    simp only [stL]
    rw [← h i (Nat.le_refl _) (by omega), show s + i + 1 = s + (i + 1) by omega, ← h1]
    split
    · rw [List.map_cons]
      congr 1
      omega
    · rfl
theorem stL_app (l : List Int) : ∀ (d e i : Nat), stL l (d + e) i = stL l d i ++ stL l e (i + d)
  | 0, e, i => by simp [stL]
  | d + 1, e, i => by
    have h1 := stL_app l d e (i + 1)
    rw [show d + 1 + e = d + e + 1 by omega]
    simp only [stL]
    rw [h1, show i + 1 + d = i + (d + 1) by omega]
    split <;> rfl
theorem stP_cut (l : List Int) (n : Nat) (hn : n ≤ l.length) (hb : n < l.length → brB l n = true) : stP (l.take n) ++ (stP (l.drop n)).map (fun v => v + (n : Int)) = stP l := by
  have h1 : stP (l.take n) = stL l n 0 := by
    unfold stP
    rw [show (l.take n).length = n by rw [List.length_take]; omega]
    have := stL_congr l (l.take n) 0 n 0 (fun j _ hj => by rw [brB_take l n j (by omega), Nat.zero_add])
    simp only [Int.natCast_zero, Int.ofNat_zero, Int.add_zero, List.map_id', Nat.zero_add] at this
    exact this
  have h2 : (stP (l.drop n)).map (fun v => v + (n : Int)) = stL l (l.length - n) n := by
    unfold stP
    rw [List.length_drop]
    by_cases c : n < l.length
    · exact stL_congr l (l.drop n) n (l.length - n) 0 (fun j _ _ => brB_drop l n (hb c) j)
    · rw [show l.length - n = 0 by omega]; rfl
  rw [h1, h2]
  unfold stP
  have := stL_app l n (l.length - n) 0
  rw [show n + (l.length - n) = l.length by omega, Nat.zero_add] at this
  exact this.symm
theorem stL_bd (l : List Int) : ∀ (d i : Nat) (v : Int), v ∈ stL l d i → (i : Int) ≤ v ∧ v < ((i + d : Nat) : Int)
  | 0, i, v, h => by simp [stL] at h
  | d + 1, i, v, h => by
    simp only [stL] at h
    have ih := stL_bd l d (i + 1) v
    split at h
    · rcases List.mem_cons.1 h with h | h
      · omega
      · have := ih h; omega
    · have := ih h; omega
theorem cut_l0 (l : List Int) (hl : l.length ≤ 120) (n : Nat) (hn : n ≤ l.length) (b : List Int) (hb : b.length ≤ 120) (hv : ∀ v ∈ b, 0 ≤ v ∧ v < 1000) (S : List Int) (d : Nat) : ∀ (j k : Nat) (acc : List Int), b.length - j = d → j ≤ b.length → acc.length ≤ 120 + j → acc ++ (b.drop j).map (fun v => v + (n : Int)) = stP l → d + 500 ≤ k →
    frisketlaw05_ClusterCut.l0 k l (n : Int) acc b j = some true := by
  have hs : (stP l).length ≤ l.length := stL_len l l.length 0
  induction d with
  | zero =>
    intro j k acc hd hj ha he hk
    obtain ⟨k, rfl⟩ : ∃ q, k = q + 1 := ⟨k - 1, by omega⟩
    rw [List.drop_eq_nil_of_le (by omega)] at he
    simp only [List.map_nil, List.append_nil] at he
    rw [frisketlaw05_ClusterCut.l0, if_neg (by omega), alive05 k (by omega), Option.bind_some, if_pos rfl, starts_f l (by omega), Option.bind_some, ints_eq _ _ he (by omega) k (by omega)]
    rfl
  | succ d ih =>
    intro j k acc hd hj ha he hk
    obtain ⟨k, rfl⟩ : ∃ q, k = q + 1 := ⟨k - 1, by omega⟩
    have e2 : wrap64 ((j : Int) + 1) = ((j + 1 : Nat) : Int) := (w64 (by omega) (by omega)).trans (by omega)
    have hj' : j < b.length := by omega
    have hm := hv b[j] (List.getElem_mem hj')
    rw [List.drop_eq_getElem_cons hj', List.map_cons] at he
    rw [frisketlaw05_ClusterCut.l0, if_pos (by omega), if_pos (by omega), if_pos (by omega), e2, rd_at b j hj', w64 (by omega) (by omega)]
    clear e2
    exact ih (j + 1) k _ (by omega) (by omega) (by simp; omega) (by rw [List.append_assoc]; exact he) (by omega)
theorem ClusterCut : ∀ (l0 : List Int) (a1 : Int), l0.length * 8 ≤ 140737488351232 → l0.length ≤ maxLen → (∀ e ∈ l0, (Lit.int .i64 e).wf = true) → (Lit.int .i64 a1).wf = true → ∃ k, frisketlaw05_ClusterCut.f k l0 a1 = some true := by
  intro l a _ _ _ _
  refine ⟨2001, ?_⟩
  unfold frisketlaw05_ClusterCut.f
  have quick : frisketlaw05_ClusterCut.j0 2001 l a true = some true := by
    rw [frisketlaw05_ClusterCut.j0, if_pos rfl, alive05 2000 (by decide)]
    rfl
  by_cases h : (l.length : Int) > 120
  · rw [if_pos h]; exact quick
  · rw [if_neg h]
    by_cases h1 : a < 0
    · rw [if_pos h1]; exact quick
    · rw [if_neg h1]
      by_cases h2 : a > (l.length : Int)
      · rw [if_pos h2]; exact quick
      · have hl : l.length ≤ 120 := by omega
        rw [if_neg h2, break_f l (by omega) a 2001 (by omega), Option.bind_some]
        cases hb : brkP l a with
        | false => exact quick
        | true =>
          obtain ⟨n, rfl⟩ : ∃ n : Nat, a = (n : Int) := ⟨a.toNat, by omega⟩
          have hbn : n < l.length → brB l n = true := by
            intro hn
            unfold brkP at hb
            rw [decide_eq_false (show ¬ (n : Int) = (l.length : Int) by omega), Bool.false_or, Int.toNat_natCast] at hb
            exact (Bool.and_eq_true _ _ ▸ hb).2
          have ht : (l.take n).length = n := by rw [List.length_take]; omega
          have hd : (l.drop n).length = l.length - n := List.length_drop
          have l1 : (stP (l.take n)).length ≤ n := by have := stL_len (l.take n) (l.take n).length 0; unfold stP; omega
          have l2 : (stP (l.drop n)).length ≤ l.length - n := by have := stL_len (l.drop n) (l.drop n).length 0; unfold stP; omega
          rw [frisketlaw05_ClusterCut.j0, if_neg (by decide), if_pos (by omega), if_pos (by omega), Int.toNat_natCast, starts_f _ (by omega), Option.bind_some, starts_f _ (by omega), Option.bind_some]
          exact cut_l0 l hl n (by omega) (stP (l.drop n)) (by omega) (fun v hv => by have := stL_bd _ _ _ v hv; omega) [] (stP (l.drop n)).length 0 2000 _ (by omega) (by omega) (by omega) (by rw [List.drop_zero]; exact stP_cut l n (by omega) hbn) (by omega)
end Go.Proofs.Ytignelhjipbnkaa.Pure
