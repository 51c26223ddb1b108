/- The pure side of the law RubyEach. -/
import Derived.Test.YtijikaihmaganaaP23
import Derived.Test.YtijikaihmaganaaPureUnits
import Derived.Test.YtijikaihmaganaaHOf
namespace Go.Proofs.Ytijikaihmaganaa.Pure
open Go.RowKit Go.Proofs.Ytijikaihmaganaa.P Go.Proofs.YtijikaihmaganaaW.PrintWords Go.Proofs.YtijikaihmaganaaW.PrintLast
set_option linter.unusedVariables false
set_option linter.unusedSimpArgs false

theorem idx_skip (items : List S69) (it : Int) : ∀ (p : List S49) (a b : Nat) (q : List S49) (j : Int), chainU items a p b → (b : Int) ≤ it → idxU it (p ++ q) j = idxU it q (j + p.length)
  | [], a, b, q, j, h, hb => by simp
  | x :: r, a, b, q, j, ⟨t, sc, e, hp, h⟩, hb => by
    have := chain_le items r t b h
    have hn : inU it x = false := by
      subst e
      rw [← Bool.not_eq_true]
      show ¬ ((decide ((a : Int) ≤ it) && decide (it < (t : Int))) = true)
      rw [Bool.and_eq_true, decide_eq_true_eq, decide_eq_true_eq]
      omega
    rw [List.cons_append]
    conv => lhs; unfold idxU
    rw [hn, if_neg (by simp), idx_skip items it r t b q (j + 1) h hb]
    simp only [List.length_cons]
    congr 1; omega
theorem idx_none (items : List S69) (it : Int) : ∀ (p : List S49) (a b : Nat) (j : Int), chainU items a p b → it < a → idxU it p j = -1
  | [], a, b, j, h, hb => rfl
  | x :: r, a, b, j, ⟨t, sc, e, hp, h⟩, hb => by
    have hn : inU it x = false := by
      subst e
      rw [← Bool.not_eq_true]
      show ¬ ((decide ((a : Int) ≤ it) && decide (it < (t : Int))) = true)
      rw [Bool.and_eq_true, decide_eq_true_eq, decide_eq_true_eq]
      omega
    unfold idxU
    have := hp.lt
    rw [hn, if_neg (by simp)]
    exact idx_none items it r t b (j + 1) h (by omega)
theorem of_f (l : List S49) (hl : l.length ≤ 1000) (it : Int) : ruby_Of.f l it = some (idxU it l 0) := by
  unfold ruby_Of.f
  rw [if_pos (by omega)]
theorem of_in (items : List S69) (p : List S49) (a t : Nat) (sc : Int) (q : List S49) (hl : (p ++ unitU items a t sc :: q).length ≤ 1000) (h : chainU items 0 p a) (k : Int) (h1 : (a : Int) ≤ k) (h2 : k < t) :
    ruby_Of.f (p ++ unitU items a t sc :: q) k = some (p.length : Int) := by
  rw [of_f _ hl, idx_skip items k p 0 a _ 0 h h1]
  unfold idxU
  rw [if_pos (by simp [inU, unitU, h1, h2])]
  simp
theorem of_out (items : List S69) (p : List S49) (b : Nat) (hl : p.length ≤ 1000) (h : chainU items 0 p b) : ruby_Of.f p (b : Int) = some (-1) := by
  rw [of_f _ hl]
  have := idx_skip items b p 0 b [] 0 h (Int.le_refl _)
  rw [List.append_nil] at this
  rw [this]; rfl
theorem each_l1 (x : List S51) (hx : x.length ≤ 80) (p : List S49) (a t : Nat) (sc : Int) (q : List S49) (hl : (p ++ unitU (x.map cv) a t sc :: q).length ≤ 1000) (h : chainU (x.map cv) 0 p a) (hp : PartU (x.map cv) a t sc) :
    ∀ (d j k : Nat), d + j = t → a ≤ j → frisketlaw18_RubyEach.l1 (k + d + 1) x (p ++ unitU (x.map cv) a t sc :: q) (p.length : Int) (j : Int) = frisketlaw18_RubyEach.l0 k x (p ++ unitU (x.map cv) a t sc :: q) (t : Int) ((p.length + 1 : Nat) : Int) := by
  have hpl : p.length ≤ 1000 := by simp at hl; omega
  have hle := hp.le
  rw [List.length_map] at hle
  intro d
  induction d with
  | zero =>
    intro j k hd hj
    conv => lhs; unfold frisketlaw18_RubyEach.l1
    rw [if_pos (by omega), if_pos (by simp; omega), rd49_mid, if_neg (by simp [unitU]; omega), w64 (by omega) (by omega)]
    rfl
  | succ d ih =>
    intro j k hd hj
    conv => lhs; unfold frisketlaw18_RubyEach.l1
    have hw : wrap64 ((j : Int) + 1) = ((j + 1 : Nat) : Int) := by rw [w64 (by omega) (by omega)]; omega
    have hof := of_in (x.map cv) p a t sc q hl h (j : Int) (by omega) (by omega)
    rw [if_pos (by omega), if_pos (by simp; omega), rd49_mid, if_pos (by simp [unitU]; omega), hw, hof]
    simp only [Option.bind_some, if_pos]
    have ih' := ih (j + 1) k (by omega) (by omega)
    have : k + (d + 1) = k + d + 1 := by omega
    rw [this, ih']
    by_cases hs : 0 < sc
    · have e6 : (unitU (x.map cv) a t sc).f6 = (rd_T51 x (j : Int)).f4 := by
        show (if 0 < sc then (rd_T69 (x.map cv) (a : Int)).f4 else -1) = _
        rw [if_pos hs, ← hp.all hs j hj (by omega), conv4 x j (by omega)]
      have h0 : (rd_T51 x (j : Int)).f4 ≥ 0 := by rw [← conv4 x j (by omega), hp.all hs j hj (by omega)]; exact hp.own hs
      rw [e6, if_pos h0, if_pos (by omega), if_pos (by omega), if_pos rfl]
    · have e6 : (unitU (x.map cv) a t sc).f6 = -1 := if_neg hs
      rw [e6, if_neg (by decide)]
theorem each_l0 (x : List S51) (hx : x.length ≤ 80) : ∀ (q p : List S49) (a k : Nat), (p ++ q).length ≤ 1000 → chainU (x.map cv) 0 p a → chainU (x.map cv) a q x.length → 4 * (x.length - a) + 5 ≤ k →
    frisketlaw18_RubyEach.l0 k x (p ++ q) (a : Int) (p.length : Int) = some true := by
  intro q
  induction q with
  | nil =>
    intro p a k hl hp hq hk
    have hpl : p.length ≤ 1000 := by simpa using hl
    obtain ⟨k, rfl⟩ : ∃ q, k = q + 1 := ⟨k - 1, by omega⟩
    obtain rfl : a = x.length := hq
    rw [List.append_nil]
    unfold frisketlaw18_RubyEach.l0
    have o2 : ruby_Of.f p (-1) = some (-1) := by rw [of_f _ hpl, idx_none (x.map cv) (-1) p 0 x.length 0 hp (by omega)]
    rw [if_neg (by omega), alive18, of_out (x.map cv) p x.length hpl hp, o2]
    simp
  | cons u q ih =>
    intro p a k hl hp hq hk
    obtain ⟨t, sc, e, hpt, hq⟩ := hq
    have hlt := hpt.lt
    have hle := hpt.le
    rw [List.length_map] at hle
    subst e
    have ih' := ih (p ++ [unitU (x.map cv) a t sc]) t (k - (t - a) - 3) (by simpa using hl) (chain_app _ _ _ _ _ _ hp ⟨t, sc, rfl, hpt, rfl⟩) hq (by omega)
    rw [List.append_assoc, List.singleton_append, List.length_append, List.length_singleton] at ih'
    obtain ⟨k, rfl⟩ : ∃ q, k = q + (t - a) + 1 + 1 + 1 := ⟨k - (t - a) - 3, by omega⟩
    have h1 := each_l1 x hx p a t sc q hl hp hpt (t - a) a k (by omega) (Nat.le_refl _)
    have hk' : k + (t - a) + 1 + 1 + 1 - (t - a) - 3 = k := by omega
    rw [hk'] at ih'
    rw [ih'] at h1
    have hj : frisketlaw18_RubyEach.j1 (k + (t - a) + 1 + 1) x (p ++ unitU (x.map cv) a t sc :: q) (a : Int) (p.length : Int) false = some true := by
      unfold frisketlaw18_RubyEach.j1
      rw [if_neg (by simp)]
      exact h1
    unfold frisketlaw18_RubyEach.l0
    rw [if_pos (by simp; omega), if_pos (by omega), rd49_mid, if_pos (show (unitU (x.map cv) a t sc).f0 = (a : Int) from rfl)]
    have f1 : (unitU (x.map cv) a t sc).f1 = (t : Int) := rfl
    rw [f1, if_neg (by omega), if_neg (by omega), w64 (by omega) (by omega)]
    by_cases hs : 0 < sc
    · have e6 : 0 ≤ (unitU (x.map cv) a t sc).f6 := by
        show 0 ≤ (if 0 < sc then (rd_T69 (x.map cv) (a : Int)).f4 else -1)
        rw [if_pos hs]; exact hpt.own hs
      rw [if_neg (by omega)]
      exact hj
    · have h0 : sc = 0 := by have := hpt.sc0; omega
      have ht := hpt.one h0
      have e6 : (unitU (x.map cv) a t sc).f6 = -1 := if_neg hs
      have e4 : ((unitU (x.map cv) a t sc).f4 != 0) = false := by
        show (((sc + 1) / 2 : Int) != 0) = false
        rw [h0]; rfl
      rw [e6, if_pos (by decide), if_pos (by omega), e4]
      exact hj
theorem RubyEach : ∀ (l0 : List (S51)) (l1 : List (S68)), ∃ k, frisketlaw18_RubyEach.f k l0 l1 = some true := by
  intro x l
  refine ⟨1000, ?_⟩
  unfold frisketlaw18_RubyEach.f
  rcases fits_f x l 1000 (by omega) with h | ⟨h, hf⟩
  · rw [h, Option.bind_some, if_neg (by simp), alive18]; rfl
  · obtain ⟨u, hu, hc⟩ := units_f x l hf
    have hx := hf.1
    have hul := chain_le _ _ _ _ hc
    rw [h, Option.bind_some, if_pos rfl, items_f x hx 1000 (by omega), Option.bind_some, hu, Option.bind_some]
    exact each_l0 x hx u [] 0 1000 (by simp; omega) rfl hc (by omega)
end Go.Proofs.Ytijikaihmaganaa.Pure
