/- How the places are turned, level by level: the inner function lays just that. -/
import Derived.Test.YtbkgggcpkiddmaaHOrder
namespace Go.Proofs.Ytbkgggcpkiddmaa.Pure
open Go.RowKit Go.Proofs.Ytbkgggcpkiddmaa.P Go.Proofs.YtbkgggcpkiddmaaW.PrintWords Go.Proofs.YtbkgggcpkiddmaaW.PrintLast Go.Proofs.YtbkgggcpkiddmaaW.PrintMore
set_option linter.unusedVariables false
set_option linter.unusedSimpArgs false
/-- Turned round: all stretches of places of a level n or above; c: the stretch so far, turned. -/
def rv (f : Int → Int) (n : Int) : List Int → List Int → List Int
  | c, [] => c
  | c, x :: X => if f x < n then c ++ x :: rv f n [] X else rv f n (x :: c) X
/-- So for the levels 127, 126 .. 128 - m, one behind the other. -/
def T (f : Int → Int) : Nat → List Int → List Int
  | 0, X => X
  | m + 1, X => rv f (127 - (m : Int)) [] (T f m X)
section
variable {f : Int → Int}
theorem rv_split (n : Int) (x : Int) (hx : f x < n) (Y : List Int) : ∀ (X c : List Int), rv f n c (X ++ x :: Y) = rv f n c X ++ x :: rv f n [] Y
  | [], c => by simp [rv, hx]
  | y :: X, c => by
    simp only [List.cons_append, rv]
    split
    · rw [rv_split n x hx Y X []]; simp
    · rw [rv_split n x hx Y X (y :: c)]
theorem rv_all (n : Int) : ∀ (X c : List Int), (∀ x ∈ X, n ≤ f x) → rv f n c X = X.reverse ++ c
  | [], c, _ => by simp [rv]
  | x :: X, c, h => by
    have hx := h x (by simp)
    rw [rv, if_neg (by omega), rv_all n X (x :: c) (fun y hy => h y (by simp [hy]))]
    simp
theorem rv_perm (n : Int) : ∀ (X c : List Int), (rv f n c X).Perm (c ++ X)
  | [], c => by simp [rv]
  | x :: X, c => by
    rw [rv]
    split
    · exact List.Perm.append_left c ((rv_perm n X []).cons x)
    · refine (rv_perm n X (x :: c)).trans ?_
      simp only [List.cons_append]
      exact (List.perm_middle).symm
theorem T_perm : ∀ (m : Nat) (X : List Int), (T f m X).Perm X
  | 0, X => by simp [T]
  | m + 1, X => by
    rw [T]
    exact (rv_perm _ _ []).trans (T_perm m X)
theorem T_mem (m : Nat) (X : List Int) (x : Int) : x ∈ T f m X ↔ x ∈ X := (T_perm m X).mem_iff
theorem T_len (m : Nat) (X : List Int) : (T f m X).length = X.length := (T_perm m X).length_eq
theorem T_nil : ∀ m, T f m [] = []
  | 0 => rfl
  | m + 1 => by rw [T, T_nil m]; rfl
theorem T_split (x : Int) (Y X : List Int) : ∀ (m : Nat), f x + (m : Int) ≤ 127 → T f m (X ++ x :: Y) = T f m X ++ x :: T f m Y
  | 0, _ => rfl
  | m + 1, h => by
    rw [T, T_split x Y X m (by omega), rv_split _ x (by omega)]
    rfl
theorem T_cut (x : Int) (Y X : List Int) (m : Nat) (h : f x + (m : Int) ≤ 127) : T f m (X ++ x :: Y) = T f m X ++ T f m (x :: Y) := by
  rw [T_split x Y X m h]
  have := T_split (f := f) x Y [] m h
  rw [T_nil] at this
  simp only [List.nil_append] at this
  rw [this]
theorem T_turn (m : Nat) (X : List Int) (h : ∀ x ∈ X, 127 - (m : Int) ≤ f x) : T f (m + 1) X = (T f m X).reverse := by
  rw [T, rv_all _ _ _ (fun x hx => h x ((T_mem m X x).1 hx))]
  simp
end
/-- The places from i on, d of them. -/
def rng : Nat → Nat → List Int
  | 0, _ => []
  | d + 1, i => (i : Int) :: rng d (i + 1)
theorem rng_len : ∀ d i, (rng d i).length = d
  | 0, _ => rfl
  | d + 1, i => by simp [rng, rng_len d]
theorem rng_add : ∀ (a b i : Nat), rng (a + b) i = rng a i ++ rng b (i + a)
  | 0, b, i => by simp [rng]
  | a + 1, b, i => by
    rw [show a + 1 + b = (a + b) + 1 by omega, rng, rng, rng_add a b (i + 1), show i + 1 + a = i + (a + 1) by omega]
    rfl
theorem rng_mem (x : Int) : ∀ d i, x ∈ rng d i ↔ ∃ j : Nat, x = (j : Int) ∧ i ≤ j ∧ j < i + d
  | 0, i => by
    constructor
    · intro h; cases h
    · rintro ⟨j, _, h1, h2⟩; omega
  | d + 1, i => by
    rw [rng, List.mem_cons, rng_mem x d (i + 1)]
    constructor
    · rintro (h | ⟨j, h, h1, h2⟩)
      · exact ⟨i, h, by omega, by omega⟩
      · exact ⟨j, h, by omega, by omega⟩
    · rintro ⟨j, h, h1, h2⟩
      by_cases e : j = i
      · subst e; exact .inl h
      · exact .inr ⟨j, h, by omega, by omega⟩
theorem rng_get : ∀ (d i k : Nat), k < d → (rng d i)[k]? = some ((i + k : Nat) : Int)
  | d + 1, i, 0, _ => by simp [rng]
  | d + 1, i, k + 1, h => by
    rw [rng, List.getElem?_cons_succ, rng_get d (i + 1) k (by omega), show i + 1 + k = i + (k + 1) by omega]
theorem runE_stop (l : List Int) (lv : Nat) : ∀ d i, runE l lv d i < i + d → rd l ((runE l lv d i : Nat) : Int) ≤ (lv : Int)
  | 0, i, h => by simp [runE] at h
  | d + 1, i, h => by
    rw [runE] at h ⊢
    split
    · rename_i c
      rw [if_pos c] at h
      exact runE_stop l lv d (i + 1) (by omega)
    · rename_i c
      omega
/-- What the inner function lays is what is turned level by level. -/
theorem layL_T (l : List Int) : ∀ (k i te lv m : Nat), i ≤ te → (te - i) + (128 - lv) ≤ k → lv + m = 127 → (∀ j : Nat, i ≤ j → j < te → (lv : Int) ≤ rd l (j : Int) ∧ rd l (j : Int) ≤ 127) → layL l k i te lv = T (rd l) m (rng (te - i) i)
  | 0, i, te, lv, m, h, hk, hm, _ => by
    have : te - i = 0 := by omega
    rw [this]
    exact (T_nil m).symm
  | k + 1, i, te, lv, m, h, hk, hm, hj => by
    unfold layL
    by_cases c : i < te
    · rw [if_pos c]
      have hi := hj i (Nat.le_refl _) c
      by_cases cv : rd l (i : Int) = (lv : Int)
      · rw [if_pos cv, layL_T l k (i + 1) te lv m (by omega) (by omega) hm (fun j h1 h2 => hj j (by omega) h2)]
        obtain ⟨d, hd⟩ : ∃ d, te - i = d + 1 := ⟨te - i - 1, by omega⟩
        rw [hd, rng, show te - (i + 1) = d by omega]
        have := T_split (f := rd l) (i : Int) (rng d (i + 1)) [] m (by omega)
        rw [T_nil] at this
        exact this.symm
      · rw [if_neg cv]
        obtain ⟨E, hE⟩ : ∃ E, runE l lv (te - i) i = E := ⟨_, rfl⟩
        have h0 := runE_le l lv (te - i) i
        have hin := runE_in l lv (te - i) i
        have hst := runE_stop l lv (te - i) i
        have hlt : i < E := by
          rw [← hE]
          obtain ⟨d, hd⟩ : ∃ d, te - i = d + 1 := ⟨te - i - 1, by omega⟩
          rw [hd, runE, if_pos (by omega)]
          have := runE_le l lv d (i + 1)
          omega
        rw [hE] at h0 hin hst ⊢
        obtain ⟨m, rfl⟩ : ∃ q, m = q + 1 := ⟨m - 1, by omega⟩
        rw [layL_T l k i E (lv + 1) m (by omega) (by omega) (by omega) (fun j g1 g2 => ⟨by have := hin j g1 g2; omega, (hj j g1 (by omega)).2⟩),
          layL_T l k E te lv (m + 1) (by omega) (by omega) hm (fun j g1 g2 => hj j (by omega) g2),
          ← T_turn m _ (fun x hx => by
            obtain ⟨j, rfl, g1, g2⟩ := (rng_mem x _ _).1 hx
            have := hin j g1 (by omega)
            omega)]
        rw [show te - i = (E - i) + (te - E) by omega, rng_add, show i + (E - i) = E by omega]
        by_cases ce : E < te
        · obtain ⟨d, hd⟩ : ∃ d, te - E = d + 1 := ⟨te - E - 1, by omega⟩
          rw [hd, rng]
          exact (T_cut (f := rd l) (E : Int) (rng d (E + 1)) (rng (E - i) i) (m + 1) (by have := hst (by omega); omega)).symm
        · rw [show te - E = 0 by omega, rng, T_nil, List.append_nil, List.append_nil]
    · rw [if_neg c, show te - i = 0 by omega, rng, T_nil]
/-- The order of levels. -/
def ord (l : List Int) : List Int := T (rd l) 127 (rng l.length 0)
def okL (l : List Int) : Prop := ∀ j : Nat, j < l.length → 0 ≤ rd l (j : Int) ∧ rd l (j : Int) ≤ 127
theorem rd_get (l : List Int) (j : Nat) (h : j < l.length) : rd l (j : Int) = l[j] := by unfold rd; simp [List.getD_eq_getElem?_getD, h]
theorem okL_iff (l : List Int) : okL l ↔ l.any bad = false := by
  rw [List.any_eq_false]
  constructor
  · intro h x hx
    obtain ⟨j, hj, rfl⟩ := List.getElem_of_mem hx
    have := h j hj
    rw [rd_get l j hj] at this
    unfold bad
    simp
    omega
  · intro h j hj
    have := h l[j] (List.getElem_mem hj)
    unfold bad at this
    rw [rd_get l j hj]
    simp at this
    omega
theorem order_ok (l : List Int) (hl : l.length * 8 ≤ 140737488351232) (h : okL l) : reorder_Order.f l = some (ord l, 0) := by
  unfold reorder_Order.f ord
  have hb := (okL_iff l).1 h
  rw [if_pos hl, hb, if_neg (by decide), layL_T l (l.length + 128) 0 l.length 0 127 (by omega) (by omega) rfl (fun j _ g => by have := h j g; omega)]
  rfl
theorem order_no (l : List Int) (hl : l.length * 8 ≤ 140737488351232) (h : ¬ okL l) : reorder_Order.f l = some ([], 81) := by
  unfold reorder_Order.f
  have hb : l.any bad = true := by
    rcases hq : l.any bad with _ | _
    · exact absurd ((okL_iff l).2 hq) h
    · rfl
  rw [if_pos hl, hb, if_pos rfl]
theorem ord_len (l : List Int) : (ord l).length = l.length := by rw [ord, T_len, rng_len]
theorem ord_perm (l : List Int) : (ord l).Perm (rng l.length 0) := T_perm _ _
end Go.Proofs.Ytbkgggcpkiddmaa.Pure
