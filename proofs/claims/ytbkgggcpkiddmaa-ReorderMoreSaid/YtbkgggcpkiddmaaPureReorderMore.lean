/- The pure side of the law ReorderMore. -/
import Derived.Test.YtbkgggcpkiddmaaP18
import Derived.Test.YtbkgggcpkiddmaaPureMore
namespace Go.Proofs.Ytbkgggcpkiddmaa.Pure
open Go.RowKit Go.Proofs.Ytbkgggcpkiddmaa.P Go.Proofs.YtbkgggcpkiddmaaW.PrintWords Go.Proofs.YtbkgggcpkiddmaaW.PrintLast
set_option linter.unusedVariables false
set_option linter.unusedSimpArgs false
theorem more_l1 (x y : List Int) (n : Nat) (hn : n ≤ 200) (hx : x.length = n) (hy : y = x.reverse) : ∀ (d i k : Nat), i + d = n → 400 + d ≤ k → frisketlaw14_ReorderMore.l1 k x y x (i : Int) = some true
  | 0, i, k, hi, hk => by
    obtain ⟨k, rfl⟩ : ∃ q, k = q + 1 := ⟨k - 1, by omega⟩
    have al := alive14 k (by omega)
    have i1 := ints_eq x (by omega) k (by omega)
    rw [frisketlaw14_ReorderMore.l1, if_neg (by omega), al, Option.bind_some, if_pos rfl, i1, Option.bind_some]
  | d + 1, i, k, hi, hk => by
    obtain ⟨k, rfl⟩ : ∃ q, k = q + 1 := ⟨k - 1, by omega⟩
    have ih := more_l1 x y n hn hx hy d (i + 1) k (by omega) (by omega)
    have hyl : y.length = n := by rw [hy, List.length_reverse, hx]
    have hw : Aside0 (wrap64 ((i : Int) + 1) = ((i + 1 : Nat) : Int)) := ⟨(w64 (by omega) (by omega)).trans (by omega)⟩
    have hw2 : Aside0 (wrap64 (wrap64 ((x.length : Int) - 1) - (i : Int)) = ((n - 1 - i : Nat) : Int)) := ⟨by rw [w64 (a := (x.length : Int) - 1) (by omega) (by omega), w64 (by omega) (by omega)]; omega⟩
    have e : rd y (i : Int) = rd x ((n - 1 - i : Nat) : Int) := by
      rw [rd_get y i (by omega), rd_get x _ (by omega)]
      subst hy
      rw [List.getElem_reverse]
      congr 1
      omega
    rw [frisketlaw14_ReorderMore.l1, if_pos (by omega), if_pos (by omega), if_pos (by omega), hw2.out, if_pos (by omega), if_pos (by omega), if_pos e, hw.out, ih]
theorem rd_map (l : List Int) (g : Int → Int) (j : Nat) (h : j < l.length) : rd (l.map g) (j : Int) = g (rd l (j : Int)) := by
  rw [rd_get _ j (by simpa using h), rd_get l j h]
  simp
theorem ord_up (l : List Int) (h : ∀ j : Nat, j < l.length → 0 ≤ rd l (j : Int) ∧ rd l (j : Int) ≤ 126) (g : Int → Int) (hg : ∀ x, g x = x + 1) : okL (l.map g) ∧ ord (l.map g) = (ord l).reverse := by
  refine ⟨fun j hj => ?_, ?_⟩
  · rw [List.length_map] at hj
    rw [rd_map l g j hj, hg]
    have := h j hj
    omega
  · unfold ord
    rw [List.length_map]
    refine T_one _ (fun x hx => ?_)
    obtain ⟨j, rfl, h1, h2⟩ := (rng_mem x _ _).1 hx
    rw [rd_map l g j (by omega), hg]
    exact ⟨rfl, h j (by omega)⟩
theorem more_l0 (l : List Int) (hl : l.length ≤ 200) : ∀ (d i k : Nat), i + d = l.length → (∀ j : Nat, j < i → rd l (j : Int) ≤ 125) → 1000 + d ≤ k →
    frisketlaw14_ReorderMore.l0 k l ((l.take i).map (fun x => wrap64 (x + 1))) ((l.take i).map (fun x => wrap64 (x + 2))) (i : Int) = some true
  | 0, i, k, hi, hj, hk => by
    obtain ⟨k, rfl⟩ : ∃ q, k = q + 2 := ⟨k - 2, by omega⟩
    have al := alive14 (k + 1) (by omega)
    obtain rfl : i = l.length := by omega
    rw [frisketlaw14_ReorderMore.l0, if_neg (by omega), List.take_length, order_f l (by omega), Option.bind_some]
    by_cases ho : okL l
    · have hle : ∀ j : Nat, j < l.length → 0 ≤ rd l (j : Int) ∧ rd l (j : Int) ≤ 125 := fun j g => ⟨(ho j g).1, hj j g⟩
      have e1 : l.map (fun x => wrap64 (x + 1)) = l.map (fun x => x + 1) := by
        refine List.map_congr_left (fun x hx => ?_)
        obtain ⟨j, g, rfl⟩ := List.getElem_of_mem hx
        have := hle j g
        rw [rd_get l j g] at this
        exact w64 (by omega) (by omega)
      have e2 : l.map (fun x => wrap64 (x + 2)) = (l.map (fun x => x + 1)).map (fun x => x + 1) := by
        rw [List.map_map]
        refine List.map_congr_left (fun x hx => ?_)
        obtain ⟨j, g, rfl⟩ := List.getElem_of_mem hx
        have := hle j g
        rw [rd_get l j g] at this
        show wrap64 (l[j] + 2) = l[j] + 1 + 1
        rw [w64 (by omega) (by omega)]
        omega
      obtain ⟨o1, u1⟩ := ord_up l (fun j g => by have := hle j g; omega) (fun x => x + 1) (fun _ => rfl)
      obtain ⟨o2, u2⟩ := ord_up (l.map (fun x => x + 1)) (fun j g => by
        rw [List.length_map] at g
        rw [rd_map l _ j g]
        have := hle j g
        omega) (fun x => x + 1) (fun _ => rfl)
      rw [u1, List.reverse_reverse] at u2
      have xl := ord_len l
      rw [e1, e2, order_f _ (by rw [List.length_map]; omega), order_f _ (by rw [List.length_map, List.length_map]; omega), ordA_ok ho, ordA_ok o1, ordA_ok o2, u1, u2]
      generalize ord l = x at *
      simp only [Option.bind_some]
      rw [if_pos trivial, if_pos trivial, if_pos trivial, show (((x.reverse).length : Int) != (x.length : Int)) = false by rw [List.length_reverse, bne_self_eq_false], frisketlaw14_ReorderMore.j1, if_neg (by decide)]
      exact more_l1 x x.reverse l.length hl xl rfl l.length 0 k (by omega) (by omega)
    · rw [ordA_no ho]
      simp only []
      rw [if_neg (by decide), al, Option.bind_some]
  | d + 1, i, k, hi, hj, hk => by
    obtain ⟨k, rfl⟩ : ∃ q, k = q + 1 := ⟨k - 1, by omega⟩
    have al := alive14 k (by omega)
    have hw : Aside0 (wrap64 ((i : Int) + 1) = ((i + 1 : Nat) : Int)) := ⟨(w64 (by omega) (by omega)).trans (by omega)⟩
    rw [frisketlaw14_ReorderMore.l0, if_pos (by omega), if_pos (by omega)]
    by_cases c : rd l (i : Int) > 125
    · rw [if_pos c, al, Option.bind_some]
    · have ih := more_l0 l hl d (i + 1) k (by omega) (fun j g => by
        by_cases e : j = i
        · subst e; omega
        · exact hj j (by omega)) (by omega)
      have ht : l.take (i + 1) = l.take i ++ [rd l (i : Int)] := by rw [List.take_succ_eq_append_getElem (by omega), rd_get l i (by omega)]
      rw [ht, List.map_append, List.map_append] at ih
      rw [if_neg c, if_pos (by rw [List.length_map, List.length_take]; omega), if_pos (by rw [List.length_map, List.length_take]; omega), hw.out]
      exact ih
theorem ReorderMore : ∀ (l0 : List Int), l0.length * 8 ≤ 140737488351232 → l0.length ≤ maxLen → (∀ e ∈ l0, (Lit.int .i64 e).wf = true) → ∃ k, frisketlaw14_ReorderMore.f k l0 = some true := by
  intro l h _ hw
  refine ⟨2000, ?_⟩
  unfold frisketlaw14_ReorderMore.f
  have al := alive14 2000 (by omega)
  by_cases c : (l.length : Int) > 200
  · rw [if_pos c, al, Option.bind_some]
  · rw [if_neg c]
    exact more_l0 l (by omega) l.length 0 2000 (by omega) (fun j g => by omega) (by omega)
end Go.Proofs.Ytbkgggcpkiddmaa.Pure
