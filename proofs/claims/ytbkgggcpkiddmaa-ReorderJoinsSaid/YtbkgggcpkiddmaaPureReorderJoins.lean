/- The pure side of the law ReorderJoins. -/
import Derived.Test.YtbkgggcpkiddmaaP19
import Derived.Test.YtbkgggcpkiddmaaPureMore
namespace Go.Proofs.Ytbkgggcpkiddmaa.Pure
open Go.RowKit Go.Proofs.Ytbkgggcpkiddmaa.P Go.Proofs.YtbkgggcpkiddmaaW.PrintWords Go.Proofs.YtbkgggcpkiddmaaW.PrintLast
set_option linter.unusedVariables false
set_option linter.unusedSimpArgs false
theorem ord_cut (l : List Int) (i : Nat) (h1 : 1 ≤ i) (h2 : i < l.length) (h : rd l ((i - 1 : Nat) : Int) = 0 ∨ rd l (i : Int) = 0) : ord l = ord (l.take i) ++ (ord (l.drop i)).map (fun x => x + (i : Int)) := by
  have e1 : T (rd l) 127 (rng l.length 0) = T (rd l) 127 (rng i 0) ++ T (rd l) 127 (rng (l.length - i) i) := by
    rcases h with h | h
    · obtain ⟨q, rfl⟩ : ∃ q, i = q + 1 := ⟨i - 1, by omega⟩
      rw [show l.length = q + ((l.length - (q + 1)) + 1) by omega, rng_add, Nat.zero_add, rng, show q + (l.length - (q + 1) + 1) - (q + 1) = l.length - (q + 1) by omega, T_split _ _ _ 127 (by rw [show q + 1 - 1 = q by omega] at h; omega), rng_add q 1 0, Nat.zero_add, rng, rng, T_split _ _ _ 127 (by rw [show q + 1 - 1 = q by omega] at h; omega), T_nil]
      simp
    · rw [show l.length = i + (l.length - i) by omega, rng_add, Nat.zero_add]
      obtain ⟨d, hd⟩ : ∃ d, l.length - i = d + 1 := ⟨l.length - i - 1, by omega⟩
      rw [show i + (l.length - i) - i = l.length - i by omega, hd, rng]
      exact T_cut _ _ _ 127 (by omega)
  have A : T (rd l) 127 (rng i 0) = T (rd (l.take i)) 127 (rng i 0) := by
    refine T_congr _ (fun x hx => ?_) 127
    obtain ⟨j, rfl, g1, g2⟩ := (rng_mem x _ _).1 hx
    rw [rd_get l j (by omega), rd_get (l.take i) j (by rw [List.length_take]; omega), List.getElem_take]
  have gen : ∀ d a : Nat, rng d (a + i) = (rng d a).map (fun x => x + (i : Int)) := by
    intro d
    induction d with
    | zero => intro a; rfl
    | succ d ih =>
      intro a
      rw [rng, rng, List.map_cons, ← ih (a + 1), show a + i + 1 = a + 1 + i by omega]
      rw [show ((a + i : Nat) : Int) = (a : Int) + (i : Int) by omega]
  have B : T (rd l) 127 (rng (l.length - i) i) = (T (rd (l.drop i)) 127 (rng (l.length - i) 0)).map (fun x => x + (i : Int)) := by
    have := gen (l.length - i) 0
    rw [Nat.zero_add] at this
    rw [this]
    refine (T_map (f := rd l) (g := rd (l.drop i)) (fun x => x + (i : Int)) _ (fun x hx => ?_) 127).symm
    obtain ⟨j, rfl, g1, g2⟩ := (rng_mem x _ _).1 hx
    rw [show ((j : Int) + (i : Int)) = ((i + j : Nat) : Int) by omega, rd_get l _ (by omega), rd_get (l.drop i) j (by rw [List.length_drop]; omega), List.getElem_drop]
  unfold ord
  rw [e1, List.length_take, List.length_drop, show min i l.length = i by omega, A, B]
theorem okL_take {l : List Int} (h : okL l) (i : Nat) : okL (l.take i) := fun j hj => by
  rw [List.length_take] at hj
  have := h j (by omega)
  rw [rd_get l j (by omega)] at this
  rw [rd_get (l.take i) j (by rw [List.length_take]; omega), List.getElem_take]
  exact this
theorem okL_drop {l : List Int} (h : okL l) (i : Nat) : okL (l.drop i) := fun j hj => by
  rw [List.length_drop] at hj
  have := h (i + j) (by omega)
  rw [rd_get l _ (by omega)] at this
  rw [rd_get (l.drop i) j (by rw [List.length_drop]; omega), List.getElem_drop]
  exact this
theorem joins_l0 (x p z : List Int) (i n : Nat) (hn : n ≤ 200) (hi : i ≤ n) (hz : z.length ≤ n) (hp : p.length ≤ n) (hx : x = p ++ z.map (fun v => v + (i : Int))) (hb : ∀ v ∈ z, 0 ≤ v ∧ v < (n : Int)) : ∀ (d j k : Nat), j + d = z.length → 500 + d ≤ k →
    frisketlaw14_ReorderJoins.l0 k (i : Int) x (p ++ (z.take j).map (fun v => v + (i : Int))) 0 z 0 (j : Int) = some true
  | 0, j, k, hj, hk => by
    obtain ⟨k, rfl⟩ : ∃ q, k = q + 1 := ⟨k - 1, by omega⟩
    have al := alive14 k (by omega)
    obtain rfl : j = z.length := by omega
    have i1 := ints_eq x (by rw [hx, List.length_append, List.length_map]; omega) k (by rw [hx, List.length_append, List.length_map]; omega)
    rw [frisketlaw14_ReorderJoins.l0, if_neg (by omega), al, Option.bind_some, if_pos rfl, if_pos rfl, if_pos rfl, List.take_length, ← hx, i1, Option.bind_some]
  | d + 1, j, k, hj, hk => by
    obtain ⟨k, rfl⟩ : ∃ q, k = q + 1 := ⟨k - 1, by omega⟩
    have ih := joins_l0 x p z i n hn hi hz hp hx hb d (j + 1) k (by omega) (by omega)
    have hw : Aside0 (wrap64 ((j : Int) + 1) = ((j + 1 : Nat) : Int)) := ⟨(w64 (by omega) (by omega)).trans (by omega)⟩
    have hv := hb z[j] (List.getElem_mem (by omega))
    rw [← rd_get z j (by omega)] at hv
    have hw2 : Aside0 (wrap64 (rd z (j : Int) + (i : Int)) = rd z (j : Int) + (i : Int)) := ⟨w64 (by omega) (by omega)⟩
    have ht : z.take (j + 1) = z.take j ++ [rd z (j : Int)] := by rw [List.take_succ_eq_append_getElem (by omega), rd_get z j (by omega)]
    rw [ht, List.map_append, ← List.append_assoc] at ih
    rw [frisketlaw14_ReorderJoins.l0, if_pos (by omega), if_pos (by omega), if_pos (by rw [List.length_append, List.length_map, List.length_take]; omega), hw.out, hw2.out]
    exact ih
theorem ReorderJoins : ∀ (l0 : List Int) (a1 : Int), l0.length * 8 ≤ 140737488351232 → l0.length ≤ maxLen → (∀ e ∈ l0, (Lit.int .i64 e).wf = true) → (Lit.int .i64 a1).wf = true → ∃ k, frisketlaw14_ReorderJoins.f k l0 a1 = some true := by
  intro l a h _ _ _
  have ht : ∀ x, frisketlaw14_ReorderJoins.j0 1000 l a x true = some true := fun x => by
    have al := alive14 999 (by omega)
    rw [show (1000 : Nat) = 999 + 1 from rfl, frisketlaw14_ReorderJoins.j0, if_pos rfl, al, Option.bind_some]
  refine ⟨1000, ?_⟩
  unfold frisketlaw14_ReorderJoins.f
  rw [order_f l h, Option.bind_some]
  by_cases c : (l.length : Int) > 200
  · rw [if_pos c]; exact ht _
  rw [if_neg c]
  by_cases c1 : a < 1
  · rw [if_pos c1]; exact ht _
  rw [if_neg c1]
  by_cases c2 : a ≥ (l.length : Int)
  · rw [if_pos c2]; exact ht _
  rw [if_neg c2]
  by_cases ho : okL l
  case neg => rw [ordA_no ho, if_neg (by decide)]; exact ht _
  obtain ⟨i, rfl⟩ : ∃ i : Nat, a = (i : Int) := ⟨a.toNat, by omega⟩
  have hw : Aside0 (wrap64 ((i : Int) - 1) = ((i - 1 : Nat) : Int)) := ⟨(w64 (by omega) (by omega)).trans (by omega)⟩
  have fin : (rd l ((i - 1 : Nat) : Int) = 0 ∨ rd l (i : Int) = 0) → frisketlaw14_ReorderJoins.j0 1000 l (i : Int) (ord l) false = some true := fun g => by
    have hc := ord_cut l i (by omega) (by omega) g
    have o1 := order_f (l.take i) (by rw [List.length_take]; omega)
    have o2 := order_f (l.drop i) (by rw [List.length_drop]; omega)
    rw [ordA_ok (okL_take ho i)] at o1
    rw [ordA_ok (okL_drop ho i)] at o2
    have l1 := ord_len (l.take i)
    have l2 := ord_len (l.drop i)
    rw [List.length_take] at l1
    rw [List.length_drop] at l2
    have hm : ∀ v ∈ ord (l.drop i), 0 ≤ v ∧ v < (l.length : Int) := fun v hv => by
      obtain ⟨j, rfl, g1, g2⟩ := (rng_mem v _ _).1 ((ord_perm (l.drop i)).mem_iff.1 hv)
      rw [List.length_drop] at g2
      omega
    rw [show (1000 : Nat) = 999 + 1 from rfl, frisketlaw14_ReorderJoins.j0, if_neg (by decide), if_pos (by omega), if_pos (by omega), Int.toNat_natCast, o1, Option.bind_some, o2, Option.bind_some]
    generalize ord l = x at *
    generalize ord (l.take i) = p at *
    generalize ord (l.drop i) = z at *
    have := joins_l0 x p z i l.length (by omega) (by omega) (by omega) (by omega) hc hm z.length 0 999 (by omega) (by omega)
    simpa using this
  rw [ordA_ok ho]
  simp only []
  rw [if_pos trivial, hw.out, if_pos (by omega), if_pos (by omega)]
  by_cases c3 : rd l ((i - 1 : Nat) : Int) = 0
  · rw [if_pos c3]; exact fin (.inl c3)
  · rw [if_neg c3, if_pos (by omega), if_pos (by omega)]
    by_cases c4 : rd l (i : Int) = 0
    · rw [show (rd l (i : Int) != 0) = false by rw [c4]; rfl]; exact fin (.inr c4)
    · rw [show (rd l (i : Int) != 0) = true from bne_iff_ne.2 c4]; exact ht _
end Go.Proofs.Ytbkgggcpkiddmaa.Pure
