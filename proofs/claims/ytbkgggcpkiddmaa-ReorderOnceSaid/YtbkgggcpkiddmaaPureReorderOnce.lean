/- The pure side of the law ReorderOnce. -/
import Derived.Test.YtbkgggcpkiddmaaP17
import Derived.Test.YtbkgggcpkiddmaaPureMore
namespace Go.Proofs.Ytbkgggcpkiddmaa.Pure
open Go.RowKit Go.Proofs.Ytbkgggcpkiddmaa.P Go.Proofs.YtbkgggcpkiddmaaW.PrintWords Go.Proofs.YtbkgggcpkiddmaaW.PrintLast
set_option linter.unusedVariables false
set_option linter.unusedSimpArgs false
theorem rd_pq (P Q : List Int) (a b : Int) (x : List Int) (h : x = P ++ a :: b :: Q) : rd x (P.length : Int) = a ∧ rd x ((P.length + 1 : Nat) : Int) = b ∧ P.length + 1 < x.length := by
  subst h
  refine ⟨rd_mid P (b :: Q) a _ rfl, ?_, by simp⟩
  have := rd_mid (P ++ [a]) Q b (P.length + 1) (by simp)
  simpa using this
theorem adj_rng (n i : Nat) (h : i + 1 < n) : Adj (i : Int) ((i + 1 : Nat) : Int) (rng n 0) := by
  obtain ⟨d, rfl⟩ : ∃ d, n = i + (d + 2) := ⟨n - i - 2, by omega⟩
  refine ⟨rng i 0, rng d (i + 2), ?_⟩
  rw [rng_add, Nat.zero_add]
  rfl
/-- Places of a level, beside one another, in the order and back. -/
theorem once_step (l y : List Int) (ho : okL l) (hy : ∀ j : Nat, j < l.length → rd y (rd (ord l) (j : Int)) = (j : Int)) (i : Nat) (hi : i + 1 < l.length) (he : rd l (i : Int) = rd l ((i + 1 : Nat) : Int)) :
    rd y ((i + 1 : Nat) : Int) = rd y (i : Int) + (if Int.tmod (rd l (i : Int)) 2 = 1 then -1 else 1) := by
  have h0 := ho i (by omega)
  obtain ⟨v, hv⟩ : ∃ v : Nat, rd l (i : Int) = (v : Int) := ⟨(rd l (i : Int)).toNat, by omega⟩
  have ha := T_adj (f := rd l) v (by omega) (i : Int) ((i + 1 : Nat) : Int) hv (he ▸ hv) (rng l.length 0) (adj_rng l.length i hi) 127
  have hl := ord_len l
  have e : T (rd l) 127 (rng l.length 0) = ord l := rfl
  rw [e, show v + 127 - 127 = v by omega] at ha
  rw [hv]
  generalize ord l = x at *
  by_cases c : v % 2 = 0
  · obtain ⟨P, Q, hx⟩ := ha.1 c
    obtain ⟨p1, p2, p3⟩ := rd_pq P Q _ _ x hx
    have q1 := hy P.length (by omega)
    have q2 := hy (P.length + 1) (by omega)
    rw [p1] at q1
    rw [p2] at q2
    have : ¬ Int.tmod (v : Int) 2 = 1 := by rw [Int.tmod_eq_emod_of_nonneg (by omega)]; omega
    rw [if_neg this, q1, q2]
    omega
  · obtain ⟨P, Q, hx⟩ := ha.2 (by omega)
    obtain ⟨p1, p2, p3⟩ := rd_pq P Q _ _ x hx
    have q1 := hy P.length (by omega)
    have q2 := hy (P.length + 1) (by omega)
    rw [p1] at q1
    rw [p2] at q2
    have : Int.tmod (v : Int) 2 = 1 := by rw [Int.tmod_eq_emod_of_nonneg (by omega)]; omega
    rw [if_pos this, q1, q2]
    omega
theorem once_l0 (l y : List Int) (hl : l.length ≤ 200) (hyl : y.length = l.length) (hb : ∀ i : Nat, i < l.length → 0 ≤ rd y (i : Int) ∧ rd y (i : Int) < (l.length : Int)) (hs : ∀ i : Nat, i + 1 < l.length → rd l (i : Int) = rd l ((i + 1 : Nat) : Int) → rd y ((i + 1 : Nat) : Int) = rd y (i : Int) + (if Int.tmod (rd l (i : Int)) 2 = 1 then -1 else 1)) :
    ∀ (d i k : Nat), i + d = l.length → 100 + d ≤ k → frisketlaw14_ReorderOnce.l0 k l y (i : Int) = some true
  | 0, i, k, hi, hk => by
    obtain ⟨k, rfl⟩ : ∃ q, k = q + 1 := ⟨k - 1, by omega⟩
    have hw : Aside0 (wrap64 ((i : Int) + 1) = ((i + 1 : Nat) : Int)) := ⟨(w64 (by omega) (by omega)).trans (by omega)⟩
    have al := alive14 k (by omega)
    rw [frisketlaw14_ReorderOnce.l0, hw.out, if_neg (by omega), al, Option.bind_some]
  | d + 1, i, k, hi, hk => by
    obtain ⟨k, rfl⟩ : ∃ q, k = q + 1 := ⟨k - 1, by omega⟩
    have hw : Aside0 (wrap64 ((i : Int) + 1) = ((i + 1 : Nat) : Int)) := ⟨(w64 (by omega) (by omega)).trans (by omega)⟩
    have al := alive14 k (by omega)
    have ih := once_l0 l y hl hyl hb hs d (i + 1) k (by omega) (by omega)
    rw [frisketlaw14_ReorderOnce.l0, hw.out]
    by_cases c : ((i + 1 : Nat) : Int) < (l.length : Int)
    · rw [if_pos c, if_pos (by omega), if_pos (by omega)]
      have b1 := hb i (by omega)
      have cy : ((i + 1 : Nat) : Int) < (y.length : Int) := by omega
      have cz : (0 : Int) ≤ ((i + 1 : Nat) : Int) := by omega
      have ci : (i : Int) < (y.length : Int) := by omega
      by_cases o : Int.tmod (rd l (i : Int)) 2 = 1
      · rw [if_pos o, if_pos cz]
        by_cases e : rd l (i : Int) = rd l ((i + 1 : Nat) : Int)
        · have st := hs i (by omega) e
          have w : Aside0 (wrap64 (rd y (i : Int) + -1) = rd y (i : Int) + -1) := ⟨w64 (by omega) (by omega)⟩
          rw [if_pos o] at st
          rw [if_pos e, if_pos cy, if_pos ci, w.out, if_pos st, ih]
        · rw [if_neg e, ih]
      · rw [if_neg o, if_pos cz]
        by_cases e : rd l (i : Int) = rd l ((i + 1 : Nat) : Int)
        · have st := hs i (by omega) e
          have w : Aside0 (wrap64 (rd y (i : Int) + 1) = rd y (i : Int) + 1) := ⟨w64 (by omega) (by omega)⟩
          rw [if_neg o] at st
          rw [if_pos e, if_pos cy, if_pos ci, w.out, if_pos st, ih]
        · rw [if_neg e, ih]
    · rw [if_neg c, al, Option.bind_some]
theorem ReorderOnce : ∀ (l0 : List Int), l0.length * 8 ≤ 140737488351232 → l0.length ≤ maxLen → (∀ e ∈ l0, (Lit.int .i64 e).wf = true) → ∃ k, frisketlaw14_ReorderOnce.f k l0 = some true := by
  intro l h _ _
  have ht : ∀ x, frisketlaw14_ReorderOnce.j0 1000 l x true = some true := fun x => by
    have al := alive14 999 (by omega)
    rw [show (1000 : Nat) = 999 + 1 from rfl, frisketlaw14_ReorderOnce.j0, if_pos rfl, al, Option.bind_some]
  refine ⟨1000, ?_⟩
  unfold frisketlaw14_ReorderOnce.f
  rw [order_f l h, Option.bind_some]
  by_cases c : (l.length : Int) > 200
  · rw [if_pos c]; exact ht _
  · rw [if_neg c]
    by_cases ho : okL l
    · rw [ordA_ok ho]
      simp only []
      have hone := once_perm (ord_perm l)
      have hst0 := once_step l
      have xl := ord_len l
      generalize ord l = x at *
      obtain ⟨y, hy1, hy2, hy3⟩ := back_once hone
      have hone2 := once_back hone hy2 hy3
      obtain ⟨z, hz1, hz2, hz3⟩ := back_once hone2
      have hzx := back_back hone hz2 hy3 hz3
      have hst := hst0 y ho hy3
      rw [hzx] at hz1
      clear hst0 hzx
      have b1 := back_f x (by omega) 999 (by omega)
      have b2 := back_f y (by omega) 999 (by omega)
      have i1 := ints_eq x (by omega) 999 (by omega)
      rw [hy1] at b1
      rw [hz1] at b2
      rw [show ((0 : Int) != 0) = false from rfl, show (1000 : Nat) = 999 + 1 from rfl, frisketlaw14_ReorderOnce.j0, if_neg (by decide), b1, Option.bind_some]
      simp only []
      rw [b2, Option.bind_some]
      simp only []
      rw [if_pos trivial, if_pos trivial, if_pos (by omega), if_pos (by omega), i1, Option.bind_some, show (999 : Nat) = 998 + 1 from rfl, frisketlaw14_ReorderOnce.j1, if_neg (by decide)]
      exact once_l0 l y (by omega) hy2 (fun i hi => hone2.inn i hi) hst l.length 0 998 (by omega) (by omega)
    · rw [ordA_no ho]
      exact ht _
end Go.Proofs.Ytbkgggcpkiddmaa.Pure
