/- What is so of every order: each place once; places beside one another; levels one higher; cut in two. -/
import Derived.Test.YtbkgggcpkiddmaaPureRef
namespace Go.Proofs.Ytbkgggcpkiddmaa.Pure
open Go.RowKit Go.Proofs.Ytbkgggcpkiddmaa.P Go.Proofs.YtbkgggcpkiddmaaW.PrintWords Go.Proofs.YtbkgggcpkiddmaaW.PrintLast Go.Proofs.YtbkgggcpkiddmaaW.PrintMore
set_option linter.unusedVariables false
set_option linter.unusedSimpArgs false
/-! The document's back. -/
theorem rdOf_set (l : List Bool) (i k : Nat) (x : Bool) (hi : i < l.length) : rdOf false (l.set i x) (k : Int) = if k = i then x else rdOf false l (k : Int) := by
  unfold rdOf
  simp only [List.getD_eq_getElem?_getD, Int.toNat_natCast, List.getElem?_set]
  by_cases h : i = k
  · subst h; simp [hi]
  · rw [if_neg h, if_neg (fun e => h e.symm)]
theorem refBack_l0 (l : List Int) (hl : l.length ≤ 1099511627776) : ∀ (X P out o2 : List Int) (sn : List Bool) (k : Nat), l = P ++ X → out.length = l.length → o2.length = l.length → sn.length = l.length →
    (∀ j : Nat, j < l.length → (rdOf false sn (j : Int) = true ↔ 0 ≤ rd out (j : Int)) ∧ (0 ≤ rd out (j : Int) → rd o2 (j : Int) = rd out (j : Int))) → out.countP (fun v => decide (0 ≤ v)) = P.length → X.length + 1 ≤ k →
    frisketref14_Back.l0 k l o2 sn (P.length : Int) = some (bkL l.length X P.length out)
  | [], P, out, o2, sn, k, h, h1, h2, h3, hj, hc, hk => by
    obtain ⟨k, rfl⟩ : ∃ q, k = q + 1 := ⟨k - 1, by omega⟩
    have hP : l.length = P.length := by rw [h]; simp
    have hall := List.countP_eq_length.1 (hc.trans (hP.symm.trans h1.symm))
    have e : o2 = out := by
      refine ext_rd (h2.trans h1.symm) (fun j g => (hj j (by omega)).2 ?_)
      have := hall out[j] (List.getElem_mem (by omega))
      rw [rd_get out j (by omega)]
      simpa using this
    rw [frisketref14_Back.l0, if_neg (by omega), bkL, e]
  | x :: X, P, out, o2, sn, k, h, h1, h2, h3, hj, hc, hk => by
    obtain ⟨k, rfl⟩ : ∃ q, k = q + 1 := ⟨k - 1, by omega⟩
    have hlen : l.length = P.length + (X.length + 1) := by rw [h]; simp
    have hx : rd l (P.length : Int) = x := by rw [h]; exact rd_mid P X x _ rfl
    have hw : Aside0 (wrap64 ((P.length : Int) + 1) = ((P.length + 1 : Nat) : Int)) := ⟨(w64 (by omega) (by omega)).trans (by omega)⟩
    rw [frisketref14_Back.l0, if_pos (by omega), if_pos (by omega), hx, bkL]
    by_cases c1 : x < 0
    · rw [if_pos c1, if_pos (.inl c1)]
    · rw [if_neg c1]
      by_cases c2 : (l.length : Int) ≤ x
      · rw [if_pos (show x ≥ (l.length : Int) from c2), if_pos (.inr (.inl c2))]
      · rw [if_neg (show ¬ x ≥ (l.length : Int) from c2), if_pos (by omega), if_pos (by omega)]
        obtain ⟨u, rfl⟩ : ∃ u : Nat, x = (u : Int) := ⟨x.toNat, by omega⟩
        have hu := hj u (by omega)
        by_cases c3 : 0 ≤ rd out (u : Int)
        · rw [if_pos (hu.1.2 c3), if_pos (.inr (.inr c3))]
        · rw [if_neg (fun g => c3 (hu.1.1 g)), if_pos (by omega), if_neg (by omega), hw.out, Int.toNat_natCast]
          have ih := refBack_l0 l hl X (P ++ [(u : Int)]) (out.set u (P.length : Int)) (o2.set u (P.length : Int)) (sn.set u true) k (by rw [h]; simp) (by simpa using h1) (by simpa using h2) (by simpa using h3) (fun j g => by
            rw [rd_set _ _ _ _ (by omega), rd_set _ _ _ _ (by omega), rdOf_set _ _ _ _ (by omega)]
            by_cases e : j = u
            · rw [if_pos e, if_pos e, if_pos e]
              exact ⟨by simp, fun _ => rfl⟩
            · rw [if_neg e, if_neg e, if_neg e]
              exact hj j g) (by
            rw [List.countP_set (by omega), hc]
            have : out[u]'(by omega) < 0 := by rw [← rd_get out u (by omega)]; omega
            simp [show ¬ 0 ≤ out[u]'(by omega) by omega]) (by simp only [List.length_cons] at hk; omega)
          rw [show (P ++ [(u : Int)]).length = P.length + 1 by simp] at ih
          rw [show ((P.length : Int) + 1) = ((P.length + 1 : Nat) : Int) by omega]
          exact ih
theorem bkL_len (n : Int) : ∀ (X : List Int) (i : Int) (out : List Int) (m : Nat), out.length ≤ m → (bkL n X i out).1.length ≤ m
  | [], i, out, m, h => h
  | x :: X, i, out, m, h => by
    rw [bkL]
    split
    · simp
    · exact bkL_len n X _ _ m (by simpa using h)
theorem refBack_f (l : List Int) (hl : l.length ≤ 200) (k : Nat) (hk : 300 ≤ k) : frisketref14_Back.f k l = some (backA l) := by
  unfold frisketref14_Back.f
  rw [if_pos (by omega), Int.toNat_natCast, if_pos (by omega), if_pos (by omega)]
  refine refBack_l0 l (by omega) l [] (List.replicate l.length (-1)) (List.replicate l.length 0) (List.replicate l.length false) k rfl (by simp) (by simp) (by simp) (fun j hj => ?_) (by simp) (by omega)
  have e1 : rd (List.replicate l.length (-1)) (j : Int) = -1 := by rw [rd_get _ j (by simpa using hj)]; simp
  have e2 : rdOf false (List.replicate l.length false) (j : Int) = false := by unfold rdOf; simp [List.getD_eq_getElem?_getD, hj]
  rw [e1, e2]
  exact ⟨by simp, fun g => by omega⟩
/-! Back of places that are there once. -/
structure Once (x : List Int) (n : Nat) : Prop where
  len : x.length = n
  inn : ∀ j : Nat, j < n → 0 ≤ rd x (j : Int) ∧ rd x (j : Int) < (n : Int)
  inj : ∀ i j : Nat, i < n → j < n → rd x (i : Int) = rd x (j : Int) → i = j
  sur : ∀ v : Nat, v < n → ∃ j : Nat, j < n ∧ rd x (j : Int) = (v : Int)
theorem rng_nodup : ∀ (d i : Nat), (rng d i).Nodup
  | 0, _ => List.nodup_nil
  | d + 1, i => by
    rw [rng, List.nodup_cons]
    refine ⟨fun h => ?_, rng_nodup d (i + 1)⟩
    obtain ⟨j, h1, h2, h3⟩ := (rng_mem _ _ _).1 h
    omega
theorem once_perm {x : List Int} {n : Nat} (h : x.Perm (rng n 0)) : Once x n := by
  have hl : x.length = n := by rw [h.length_eq, rng_len]
  have hn : x.Nodup := h.nodup_iff.2 (rng_nodup n 0)
  refine ⟨hl, fun j hj => ?_, fun i j hi hj e => ?_, fun v hv => ?_⟩
  · have hm : rd x (j : Int) ∈ x := by rw [rd_get x j (by omega)]; exact List.getElem_mem _
    obtain ⟨u, h1, h2, h3⟩ := (rng_mem _ _ _).1 (h.mem_iff.1 hm)
    omega
  · rw [rd_get x i (by omega), rd_get x j (by omega)] at e
    have hp := List.pairwise_iff_getElem.1 hn
    rcases Nat.lt_trichotomy i j with g | g | g
    · exact absurd e (hp i j (by omega) (by omega) g)
    · exact g
    · exact absurd e.symm (hp j i (by omega) (by omega) g)
  · have hm : (v : Int) ∈ x := h.mem_iff.2 ((rng_mem _ _ _).2 ⟨v, rfl, by omega, by omega⟩)
    obtain ⟨j, hj, e⟩ := List.getElem_of_mem hm
    exact ⟨j, by omega, by rw [rd_get x j hj, e]⟩
theorem bkL_once {l : List Int} {n : Nat} (ho : Once l n) : ∀ (X P out : List Int), l = P ++ X → out.length = n → (∀ j : Nat, j < P.length → rd out (rd l (j : Int)) = (j : Int)) → (∀ v : Nat, v < n → (∀ j : Nat, j < P.length → rd l (j : Int) ≠ (v : Int)) → rd out (v : Int) = -1) →
    ∃ y, bkL n X P.length out = (y, 0) ∧ y.length = n ∧ ∀ j : Nat, j < n → rd y (rd l (j : Int)) = (j : Int)
  | [], P, out, h, h1, h2, h3 => by
    have hP : l.length = P.length := by rw [h]; simp
    exact ⟨out, rfl, h1, fun j hj => h2 j (by have := ho.len; omega)⟩
  | x :: X, P, out, h, h1, h2, h3 => by
    have hlen : l.length = P.length + (X.length + 1) := by rw [h]; simp
    have hx : rd l (P.length : Int) = x := by rw [h]; exact rd_mid P X x _ rfl
    have hn := ho.len
    have hi := ho.inn P.length (by omega)
    rw [hx] at hi
    obtain ⟨u, rfl⟩ : ∃ u : Nat, x = (u : Int) := ⟨x.toNat, by omega⟩
    have hu := h3 u (by omega) (fun j hj e => by have := ho.inj j P.length (by omega) (by omega) (e.trans hx.symm); omega)
    rw [bkL, if_neg (by omega), Int.toNat_natCast]
    have ih := bkL_once ho X (P ++ [(u : Int)]) (out.set u (P.length : Int)) (by rw [h]; simp) (by simpa using h1) (fun j hj => by
      rw [List.length_append, List.length_cons, List.length_nil] at hj
      have hj2 := ho.inn j (by omega)
      obtain ⟨v, hv⟩ : ∃ v : Nat, rd l (j : Int) = (v : Int) := ⟨(rd l (j : Int)).toNat, by omega⟩
      rw [hv, rd_set _ _ _ _ (by omega)]
      by_cases e : v = u
      · subst e
        have := ho.inj j P.length (by omega) (by omega) (hv.trans hx.symm)
        rw [if_pos rfl, this]
      · rw [if_neg e, ← hv]
        refine h2 j ?_
        by_cases e2 : j = P.length
        · subst e2; rw [hx] at hv; omega
        · omega) (fun v hv g => by
      rw [rd_set _ _ _ _ (by omega)]
      have hne := g P.length (by simp)
      rw [hx] at hne
      rw [if_neg (by omega)]
      exact h3 v hv (fun j hj => g j (by simp; omega)))
    rw [show (P ++ [(u : Int)]).length = P.length + 1 by simp] at ih
    rw [show ((P.length : Int) + 1) = ((P.length + 1 : Nat) : Int) by omega]
    exact ih
theorem back_once {l : List Int} {n : Nat} (ho : Once l n) : ∃ y, backA l = (y, 0) ∧ y.length = n ∧ ∀ j : Nat, j < n → rd y (rd l (j : Int)) = (j : Int) := by
  unfold backA
  have hn := ho.len
  rw [hn]
  exact bkL_once ho l [] (List.replicate n (-1)) rfl (by simp) (fun j hj => absurd hj (by simp)) (fun v hv _ => by rw [rd_get _ v (by simpa using hv)]; simp)
theorem once_back {l y : List Int} {n : Nat} (ho : Once l n) (hy : y.length = n) (h : ∀ j : Nat, j < n → rd y (rd l (j : Int)) = (j : Int)) : Once y n := by
  refine ⟨hy, fun v hv => ?_, fun a b ha hb e => ?_, fun j hj => ?_⟩
  · obtain ⟨j, hj, e⟩ := ho.sur v hv
    rw [← e, h j hj]
    omega
  · obtain ⟨i, hi, e1⟩ := ho.sur a ha
    obtain ⟨j, hj, e2⟩ := ho.sur b hb
    rw [← e1, ← e2, h i hi, h j hj] at e
    have : i = j := by omega
    subst this
    omega
  · have := ho.inn j hj
    exact ⟨(rd l (j : Int)).toNat, by omega, by rw [show (((rd l (j : Int)).toNat : Nat) : Int) = rd l (j : Int) by omega]; exact h j hj⟩
theorem back_back {l y z : List Int} {n : Nat} (ho : Once l n) (hz : z.length = n) (h : ∀ j : Nat, j < n → rd y (rd l (j : Int)) = (j : Int)) (h2 : ∀ v : Nat, v < n → rd z (rd y (v : Int)) = (v : Int)) : z = l := by
  refine ext_rd (hz.trans ho.len.symm) (fun j hj => ?_)
  have hi := ho.inn j (by omega)
  obtain ⟨v, hv⟩ : ∃ v : Nat, rd l (j : Int) = (v : Int) := ⟨(rd l (j : Int)).toNat, by omega⟩
  have h3 := h2 v (by omega)
  rw [← hv, h j (by omega)] at h3
  exact h3
/-! Beside one another. -/
def Adj (a b : Int) (X : List Int) : Prop := ∃ P Q, X = P ++ a :: b :: Q
section
variable {f : Int → Int}
theorem rv_keep (n : Int) (a b : Int) (ha : f a < n) (hb : f b < n) (X c : List Int) (h : Adj a b X) : Adj a b (rv f n c X) := by
  obtain ⟨P, Q, rfl⟩ := h
  refine ⟨rv f n c P, rv f n [] Q, ?_⟩
  rw [rv_split n a ha]
  have := rv_split (f := f) n b hb Q [] []
  simp only [List.nil_append, rv] at this ⊢
  rw [if_pos hb]
theorem rv_acc (n : Int) (a b : Int) : ∀ (Q c1 c2 : List Int), Adj a b (rv f n (c1 ++ a :: b :: c2) Q)
  | [], c1, c2 => ⟨c1, c2, rfl⟩
  | q :: Q, c1, c2 => by
    rw [rv]
    split
    · exact ⟨c1, c2 ++ q :: rv f n [] Q, by simp⟩
    · exact rv_acc n a b Q (q :: c1) c2
theorem rv_turn (n : Int) (a b : Int) (ha : n ≤ f a) (hb : n ≤ f b) (Q : List Int) : ∀ (P c : List Int), Adj b a (rv f n c (P ++ a :: b :: Q))
  | [], c => by
    simp only [List.nil_append, rv]
    rw [if_neg (by omega), if_neg (by omega)]
    exact rv_acc n b a Q [] c
  | p :: P, c => by
    simp only [List.cons_append, rv]
    split
    · obtain ⟨P', Q', e⟩ := rv_turn n a b ha hb Q P []
      exact ⟨c ++ p :: P', Q', by rw [e]; simp⟩
    · exact rv_turn n a b ha hb Q P (p :: c)
theorem T_adj (v : Nat) (hv : v ≤ 127) (a b : Int) (ha : f a = (v : Int)) (hb : f b = (v : Int)) (X : List Int) (h : Adj a b X) : ∀ m : Nat, ((v + m - 127) % 2 = 0 → Adj a b (T f m X)) ∧ ((v + m - 127) % 2 = 1 → Adj b a (T f m X))
  | 0 => ⟨fun _ => h, fun g => by omega⟩
  | m + 1 => by
    have ih := T_adj v hv a b ha hb X h m
    rw [T]
    by_cases c : 127 ≤ v + m
    · refine ⟨fun g => ?_, fun g => ?_⟩
      · obtain ⟨P, Q, e⟩ := ih.2 (by omega)
        rw [e]
        exact rv_turn _ b a (by omega) (by omega) Q P []
      · obtain ⟨P, Q, e⟩ := ih.1 (by omega)
        rw [e]
        exact rv_turn _ a b (by omega) (by omega) Q P []
    · refine ⟨fun g => rv_keep _ a b (by omega) (by omega) _ _ (ih.1 (by omega)), fun g => by omega⟩
/-! Levels of another making. -/
theorem rv_none (n : Int) : ∀ (X : List Int), (∀ x ∈ X, f x < n) → rv f n [] X = X
  | [], _ => rfl
  | x :: X, h => by
    rw [rv, if_pos (h x (by simp)), rv_none n X (fun y hy => h y (by simp [hy]))]
    rfl
theorem rv_congr {g : Int → Int} (n n' : Int) : ∀ (X c : List Int), (∀ x ∈ X, (f x < n ↔ g x < n')) → rv f n c X = rv g n' c X
  | [], c, _ => rfl
  | x :: X, c, h => by
    have hx := h x (by simp)
    have ih := fun c => rv_congr n n' X c (fun y hy => h y (by simp [hy]))
    rw [rv, rv]
    by_cases e : f x < n
    · rw [if_pos e, if_pos (hx.1 e), ih]
    · rw [if_neg e, if_neg (fun k => e (hx.2 k)), ih]
theorem T_congr {g : Int → Int} (X : List Int) (h : ∀ x ∈ X, f x = g x) : ∀ m, T f m X = T g m X
  | 0 => rfl
  | m + 1 => by
    rw [T, T, T_congr X h m]
    exact rv_congr _ _ _ _ (fun x hx => by rw [h x ((T_mem m X x).1 hx)])
theorem T_up {g : Int → Int} (X : List Int) (h : ∀ x ∈ X, g x = f x + 1 ∧ f x ≤ 126) : ∀ m, T g m X = T f (m + 1) X
  | 0 => by
    rw [T, T, T]
    exact (rv_none _ X (fun x hx => by have := h x hx; omega)).symm
  | m + 1 => by
    show rv g (127 - (m : Int)) [] (T g m X) = rv f (127 - ((m + 1 : Nat) : Int)) [] (T f (m + 1) X)
    rw [T_up X h m]
    exact rv_congr _ _ _ _ (fun x hx => by have := h x ((T_mem _ X x).1 hx); omega)
theorem T_one {g : Int → Int} (X : List Int) (h : ∀ x ∈ X, g x = f x + 1 ∧ 0 ≤ f x ∧ f x ≤ 126) : T g 127 X = (T f 127 X).reverse := by
  rw [T_up X (fun x hx => ⟨(h x hx).1, (h x hx).2.2⟩) 127]
  exact T_turn 127 X (fun x hx => by have := h x hx; omega)
theorem rv_map {g : Int → Int} (h : Int → Int) (n : Int) : ∀ (X c : List Int), (∀ x ∈ X, f (h x) = g x) → (rv g n c X).map h = rv f n (c.map h) (X.map h)
  | [], c, _ => rfl
  | x :: X, c, e => by
    have ex := e x (by simp)
    have ih := fun c => rv_map h n X c (fun y hy => e y (by simp [hy]))
    rw [rv, List.map_cons, rv, ex]
    split
    · rw [List.map_append, List.map_cons, ih]; rfl
    · rw [ih]; rfl
theorem T_map {g : Int → Int} (h : Int → Int) (X : List Int) (e : ∀ x ∈ X, f (h x) = g x) : ∀ m, (T g m X).map h = T f m (X.map h)
  | 0 => rfl
  | m + 1 => by
    rw [T, T, ← T_map h X e m]
    exact rv_map h _ _ [] (fun x hx => e x ((T_mem m X x).1 hx))
end
end Go.Proofs.Ytbkgggcpkiddmaa.Pure
