/- What each weak rule makes of a list, place by place, in plain Lean. -/
import Derived.Test.YtdhknnaholaohaaP6
import Derived.Test.YtdhknnaholaohaaP7
import Derived.Test.YtdhknnaholaohaaP11
import Derived.Test.YtdhknnaholaohaaP12
import Derived.Test.YtdhknnaholaohaaP13
import Derived.Test.YtdhknnaholaohaaHRule
import Derived.Test.YtdhknnaholaohaaOp
namespace Go.Proofs.Ytdhknnaholaohaa.Pure
open Go.RowKit Go.Proofs.Ytdhknnaholaohaa.P Go.Proofs.YtdhknnaholaohaaW.PrintWords Go.Proofs.YtdhknnaholaohaaW.PrintLast Go.Proofs.YtdhknnaholaohaaW.PrintMore
set_option linter.unusedVariables false
set_option linter.unusedSimpArgs false

theorem w64 {a : Int} (h : -9223372036854775808 ≤ a) (h' : a ≤ 9223372036854775807) : wrap64 a = a := by unfold wrap64; omega
theorem rd_at (l : List Int) (i : Nat) (h : i < l.length) : rd l (i : Int) = l[i] := by
  unfold rd
  simp [List.getD_eq_getElem?_getD, List.getElem?_eq_getElem h]
theorem rd_in {l : List Int} {i : Nat} {x : Int} (h : rd l (i : Int) = x) (hx : x ≠ 0) : i < l.length := by
  by_cases g : i < l.length
  · exact g
  · exfalso
    apply hx
    rw [← h]
    unfold rd
    rw [Int.toNat_natCast, List.getD_eq_getElem?_getD, List.getElem?_eq_none (by omega)]
    rfl
theorem rdm (f : Nat → Int) (n i : Nat) (h : i < n) : rd ((List.range n).map f) (i : Int) = f i := by
  rw [rd_at _ i (by simpa using h)]
  simp
theorem rm_succ (f : Nat → Int) (n : Nat) : (List.range (n + 1)).map f = (List.range n).map f ++ [f n] := by
  rw [List.range_succ, List.map_append]
  rfl
theorem same_l0 (a : List Int) (ha : a.length ≤ 1099511627776) (d : Nat) : ∀ (j k : Nat), a.length - j = d → d + 1 ≤ k → frisketlaw08_Same.l0 k a a j = some true := by
  induction d with
  | zero =>
    intro j k hd hk
    obtain ⟨k, rfl⟩ : ∃ q, k = q + 1 := ⟨k - 1, by omega⟩
    simp only [frisketlaw08_Same.l0]
    rw [if_neg (by omega)]
  | succ d ih =>
    intro j k hd hk
    obtain ⟨k, rfl⟩ : ∃ q, k = q + 1 := ⟨k - 1, by omega⟩
    have e2 : wrap64 ((j : Int) + 1) = ((j + 1 : Nat) : Int) := (w64 (by omega) (by omega)).trans (by omega)
    simp only [frisketlaw08_Same.l0]
    rw [if_pos (by omega), if_pos (by omega), if_pos (by omega), if_pos trivial, e2]
    exact ih (j + 1) k (by omega) (by omega)
theorem same_eq (a b : List Int) (h : a = b) (ha : a.length ≤ 1099511627776) (k : Nat) (hk : a.length + 1 ≤ k) : frisketlaw08_Same.f k a b = some true := by
  subst h
  unfold frisketlaw08_Same.f
  rw [if_pos rfl]
  exact same_l0 a ha a.length 0 k (by omega) hk
theorem alive10 (k : Nat) (hk : 60 ≤ k) : frisketlaw10_alive.f k = some true := by
  have h : frisketlaw10_alive.f 60 = some true := by decide +kernel
  exact at_rounds (g := fun k => frisketlaw10_alive.f k) (fun k => frisketlaw10_alive.mono k) hk h
/-- A list of which the first i places are f's. -/
def mix (f : Nat → Int) (l : List Int) (i : Nat) : List Int := (List.range i).map f ++ l.drop i
theorem mix_len (f : Nat → Int) (l : List Int) (i : Nat) (h : i ≤ l.length) : (mix f l i).length = l.length := by
  unfold mix
  rw [List.length_append, List.length_map, List.length_range, List.length_drop]
  omega
theorem mix_rd (f : Nat → Int) (l : List Int) (i j : Nat) : rd (mix f l i) (j : Int) = if j < i then f j else rd l (j : Int) := by
  unfold mix rd
  rw [Int.toNat_natCast, List.getD_eq_getElem?_getD]
  by_cases h : j < i
  · rw [if_pos h, List.getElem?_append_left (by simpa using h)]
    simp [h]
  · rw [if_neg h, List.getElem?_append_right (by simp; omega), List.length_map, List.length_range, List.getElem?_drop, List.getD_eq_getElem?_getD]
    congr 2
    omega
theorem mix_keep (f : Nat → Int) (l : List Int) (i : Nat) (h : i < l.length) (e : rd l (i : Int) = f i) : mix f l i = mix f l (i + 1) := by
  unfold mix
  rw [rm_succ, List.drop_eq_getElem_cons h, ← e, rd_at l i h, List.append_assoc]
  rfl
theorem mix_set (f : Nat → Int) (l : List Int) (i : Nat) (h : i < l.length) (v : Int) (e : v = f i) : (mix f l i).set i v = mix f l (i + 1) := by
  subst e
  unfold mix
  rw [List.set_append_right _ _ (by simp)]
  simp only [List.length_map, List.length_range, Nat.sub_self]
  rw [rm_succ, List.drop_eq_getElem_cons h, List.set_cons_zero, List.append_assoc]
  rfl
theorem mix_0 (f : Nat → Int) (l : List Int) : mix f l 0 = l := by simp [mix]
theorem mix_end (f : Nat → Int) (l : List Int) : mix f l l.length = (List.range l.length).map f := by simp [mix]
/-- Marks. -/
def m1 (l : List Int) (a : Int) : Nat → Int
  | 0 => markW a (rd l ((0 : Nat) : Int))
  | i + 1 => markW (isoW (m1 l a i)) (rd l ((i + 1 : Nat) : Int))
def lastM (l : List Int) (a : Int) : Nat → Int
  | 0 => a
  | i + 1 => isoW (m1 l a i)
theorem m1_last (l : List Int) (a : Int) (i : Nat) : m1 l a i = markW (lastM l a i) (rd l (i : Int)) := by cases i <;> rfl
/-- The last strong one ahead of i. -/
def sb (l : List Int) (a : Int) : Nat → Int
  | 0 => a
  | i + 1 => if strB (rd l (i : Int)) = true then rd l (i : Int) else sb l a i
def b1 (s t : Int) (l : List Int) (a : Int) (i : Nat) : Int := if ((rd l (i : Int) == 3) && (sb l a i == s)) = true then t else rd l (i : Int)
def r3 (l : List Int) (i : Nat) : Int := if (rd l (i : Int) == 2) = true then 1 else rd l (i : Int)
def o6 (l : List Int) (i : Nat) : Int := if (rd l (i : Int) == 4 || (rd l (i : Int) == 5 || rd l (i : Int) == 7)) = true then 13 else rd l (i : Int)
def s4 (l : List Int) : Nat → Int
  | 0 => rd l ((0 : Nat) : Int)
  | i + 1 => if i + 2 < l.length ∧ (rd l ((i + 1 : Nat) : Int) = 4 ∨ rd l ((i + 1 : Nat) : Int) = 7) ∧ (s4 l i = 3 ∨ s4 l i = 6 ∧ rd l ((i + 1 : Nat) : Int) = 7) ∧ rd l ((i + 2 : Nat) : Int) = s4 l i then s4 l i else rd l ((i + 1 : Nat) : Int)
def lf (l : List Int) : Nat → Bool
  | 0 => false
  | i + 1 => if rd l (i : Int) = 5 then lf l i else rd l (i : Int) == 3
def rg (l : List Int) : Nat → Nat → Bool
  | 0, _ => false
  | d + 1, i => if rd l (i : Int) = 5 then rg l d (i + 1) else rd l (i : Int) == 3
def t5 (l : List Int) (i : Nat) : Int := if rd l (i : Int) = 5 ∧ (lf l i || rg l (l.length - i) i) = true then 3 else rd l (i : Int)
theorem marks_eq (l : List Int) (a : Int) (d : Nat) : ∀ i : Nat, i + d = l.length → marksL d i (lastM l a i) (mix (m1 l a) l i) = (List.range l.length).map (m1 l a) := by
  induction d with
  | zero =>
    intro i h
    obtain rfl : i = l.length := by omega
    rw [marksL, mix_end]
  | succ d ih =>
    intro i h
    have hm := m1_last l a i
    rw [marksL, mix_rd, if_neg (Nat.lt_irrefl i), ← hm, show isoW (m1 l a i) = lastM l a (i + 1) from rfl, ← ih (i + 1) (by omega)]
    congr 1
    unfold markW at hm
    split
    · rename_i h8
      rw [if_pos h8] at hm
      exact mix_set _ _ _ (by omega) _ hm.symm
    · rename_i h8
      rw [if_neg h8] at hm
      exact mix_keep _ _ _ (by omega) hm.symm
theorem behind_eq (s t : Int) (l : List Int) (a : Int) (d : Nat) : ∀ i : Nat, i + d = l.length → behindL s t d i (sb l a i) (mix (b1 s t l a) l i) = (List.range l.length).map (b1 s t l a) := by
  induction d with
  | zero =>
    intro i h
    obtain rfl : i = l.length := by omega
    rw [behindL, mix_end]
  | succ d ih =>
    intro i h
    rw [behindL, mix_rd, if_neg (Nat.lt_irrefl i), show (if strB (rd l (i : Int)) = true then rd l (i : Int) else sb l a i) = sb l a (i + 1) from rfl, ← ih (i + 1) (by omega)]
    congr 1
    have hm : b1 s t l a i = if ((rd l (i : Int) == 3) && (sb l a i == s)) = true then t else rd l (i : Int) := rfl
    split
    · rename_i h8
      rw [if_pos h8] at hm
      exact mix_set _ _ _ (by omega) _ hm.symm
    · rename_i h8
      rw [if_neg h8] at hm
      exact mix_keep _ _ _ (by omega) hm.symm
theorem right_eq (l : List Int) (d : Nat) : ∀ i : Nat, i + d = l.length → rightL d i (mix (r3 l) l i) = (List.range l.length).map (r3 l) := by
  induction d with
  | zero =>
    intro i h
    obtain rfl : i = l.length := by omega
    rw [rightL, mix_end]
  | succ d ih =>
    intro i h
    rw [rightL, mix_rd, if_neg (Nat.lt_irrefl i), ← ih (i + 1) (by omega)]
    congr 1
    have hm : r3 l i = if (rd l (i : Int) == 2) = true then 1 else rd l (i : Int) := rfl
    split
    · rename_i h8
      rw [if_pos h8] at hm
      exact mix_set _ _ _ (by omega) _ hm.symm
    · rename_i h8
      rw [if_neg h8] at hm
      exact mix_keep _ _ _ (by omega) hm.symm
theorem others_eq (l : List Int) (d : Nat) : ∀ i : Nat, i + d = l.length → othersL d i (mix (o6 l) l i) = (List.range l.length).map (o6 l) := by
  induction d with
  | zero =>
    intro i h
    obtain rfl : i = l.length := by omega
    rw [othersL, mix_end]
  | succ d ih =>
    intro i h
    rw [othersL, mix_rd, if_neg (Nat.lt_irrefl i), ← ih (i + 1) (by omega)]
    congr 1
    have hm : o6 l i = if (rd l (i : Int) == 4 || (rd l (i : Int) == 5 || rd l (i : Int) == 7)) = true then 13 else rd l (i : Int) := rfl
    split
    · rename_i h8
      rw [if_pos h8] at hm
      exact mix_set _ _ _ (by omega) _ hm.symm
    · rename_i h8
      rw [if_neg h8] at hm
      exact mix_keep _ _ _ (by omega) hm.symm
theorem sep_l0 (l : List Int) (hl : l.length ≤ 1000000) (d : Nat) : ∀ (i k : Nat), l.length - i = d → i + 1 ≤ l.length → d + 1 ≤ k → weak_separators.l0 k (mix (s4 l) l (i + 1)) ((i + 1 : Nat) : Int) = some ((List.range l.length).map (s4 l)) := by
  induction d with
  | zero => intro i k h h1; omega
  | succ d ih =>
    intro i k hd hi hk
    obtain ⟨k, rfl⟩ : ∃ q, k = q + 1 := ⟨k - 1, by omega⟩
    have hm : (mix (s4 l) l (i + 1)).length = l.length := mix_len _ _ _ hi
    have e1 : Aside0 (wrap64 (((i + 1 : Nat) : Int) + 1) = ((i + 2 : Nat) : Int)) := ⟨(w64 (by omega) (by omega)).trans (by omega)⟩
    have e2 : Aside0 (wrap64 (((i + 1 : Nat) : Int) - 1) = (i : Int)) := ⟨(w64 (by omega) (by omega)).trans (by omega)⟩
    have f0 : rd (mix (s4 l) l (i + 1)) (i : Int) = s4 l i := by rw [mix_rd, if_pos (by omega)]
    have f1 : rd (mix (s4 l) l (i + 1)) ((i + 1 : Nat) : Int) = rd l ((i + 1 : Nat) : Int) := by rw [mix_rd, if_neg (by omega)]
    have f2 : rd (mix (s4 l) l (i + 1)) ((i + 2 : Nat) : Int) = rd l ((i + 2 : Nat) : Int) := by rw [mix_rd, if_neg (by omega)]
    rw [weak_separators.l0, e1.out, e2.out, f0, f1, f2, hm, Int.toNat_natCast]
    have hs : s4 l (i + 1) = if i + 2 < l.length ∧ (rd l ((i + 1 : Nat) : Int) = 4 ∨ rd l ((i + 1 : Nat) : Int) = 7) ∧ (s4 l i = 3 ∨ s4 l i = 6 ∧ rd l ((i + 1 : Nat) : Int) = 7) ∧ rd l ((i + 2 : Nat) : Int) = s4 l i then s4 l i else rd l ((i + 1 : Nat) : Int) := rfl
    by_cases c : ((i + 2 : Nat) : Int) < (l.length : Int)
    · have next : ∀ X : List Int, X = mix (s4 l) l (i + 2) → weak_separators.l0 k X ((i + 2 : Nat) : Int) = some ((List.range l.length).map (s4 l)) := fun X hX => by rw [hX]; exact ih (i + 1) k (by omega) (by omega) (by omega)
      have keep : ¬ (i + 2 < l.length ∧ (rd l ((i + 1 : Nat) : Int) = 4 ∨ rd l ((i + 1 : Nat) : Int) = 7) ∧ (s4 l i = 3 ∨ s4 l i = 6 ∧ rd l ((i + 1 : Nat) : Int) = 7) ∧ rd l ((i + 2 : Nat) : Int) = s4 l i) → weak_separators.l0 k (mix (s4 l) l (i + 1)) ((i + 2 : Nat) : Int) = some ((List.range l.length).map (s4 l)) := fun h => next _ (mix_keep _ _ _ (by omega) (by rw [hs, if_neg h]))
      have put : (i + 2 < l.length ∧ (rd l ((i + 1 : Nat) : Int) = 4 ∨ rd l ((i + 1 : Nat) : Int) = 7) ∧ (s4 l i = 3 ∨ s4 l i = 6 ∧ rd l ((i + 1 : Nat) : Int) = 7) ∧ rd l ((i + 2 : Nat) : Int) = s4 l i) → weak_separators.l0 k ((mix (s4 l) l (i + 1)).set (i + 1) (s4 l i)) ((i + 2 : Nat) : Int) = some ((List.range l.length).map (s4 l)) := fun h => next _ (mix_set _ _ _ (by omega) _ (by rw [hs, if_pos h]))
      clear next hs f0 f1 f2 hm ih
      have hi2 : i + 2 < l.length := by omega
      rw [if_pos c, if_pos (show (0 : Int) ≤ (i : Int) by omega), if_pos (show (i : Int) < (l.length : Int) by omega)]
      have p0 : (0 : Int) ≤ ((i + 1 : Nat) : Int) := by omega
      have p1 : ((i + 1 : Nat) : Int) < (l.length : Int) := by omega
      have p2 : (0 : Int) ≤ ((i + 2 : Nat) : Int) := by omega
      simp only [if_pos p0, if_pos p1, if_pos p2]
      clear p0 p1 p2 c
      generalize s4 l i = a at keep put ⊢
      generalize rd l ((i + 1 : Nat) : Int) = x at keep put ⊢
      generalize rd l ((i + 2 : Nat) : Int) = y at keep put ⊢
      by_cases a3 : a = 3
      · rw [if_pos a3]
        by_cases x4 : x = 4
        · rw [if_pos x4]
          by_cases ya : y = a
          · rw [if_pos ya]; exact put ⟨hi2, .inl x4, .inl a3, ya⟩
          · rw [if_neg ya]; exact keep (fun h => ya h.2.2.2)
        · rw [if_neg x4]
          by_cases x7 : x = 7
          · rw [if_pos x7]
            by_cases ya : y = a
            · rw [if_pos ya]; exact put ⟨hi2, .inr x7, .inl a3, ya⟩
            · rw [if_neg ya]; exact keep (fun h => ya h.2.2.2)
          · rw [if_neg x7]; exact keep (fun h => by rcases h.2.1 with g | g <;> omega)
      · rw [if_neg a3]
        by_cases a6 : a = 6
        · rw [if_pos a6]
          by_cases x4 : x = 4
          · rw [if_pos x4, if_neg (show ¬ x = 7 by omega)]; exact keep (fun h => by rcases h.2.2.1 with g | g <;> omega)
          · rw [if_neg x4]
            by_cases x7 : x = 7
            · rw [if_pos x7]
              by_cases ya : y = a
              · rw [if_pos ya]; exact put ⟨hi2, .inr x7, .inr ⟨a6, x7⟩, ya⟩
              · rw [if_neg ya]; exact keep (fun h => ya h.2.2.2)
            · rw [if_neg x7]; exact keep (fun h => by rcases h.2.1 with g | g <;> omega)
        · rw [if_neg a6]
          have k2 := keep (fun h => by rcases h.2.2.1 with g | g <;> omega)
          rw [k2]
          simp
    · rw [if_neg c]
      congr 1
      clear hm f0 f1 f2
      rw [← mix_end]
      by_cases e : l.length = i + 1
      · rw [e]
      · have e2 : l.length = i + 2 := by omega
        rw [e2]
        exact mix_keep _ _ _ (by omega) (by rw [hs, if_neg (by omega)])
theorem sep_f (l : List Int) (hl : l.length ≤ 1000000) (a : Int) : weak_separators.f (l.length + 8) l a = some ((List.range l.length).map (s4 l)) := by
  unfold weak_separators.f
  by_cases h : 0 < l.length
  · have e : mix (s4 l) l 1 = l := by rw [← mix_keep (s4 l) l 0 h rfl, mix_0]
    have := sep_l0 l hl l.length 0 (l.length + 8) (by omega) (by omega) (by omega)
    rw [Nat.zero_add, e] at this
    exact this
  · have e : l = [] := List.length_eq_zero_iff.1 (by omega)
    subst e
    rw [show ([] : List Int).length + 8 = 7 + 1 from rfl, weak_separators.l0, if_neg (by rw [w64 (by omega) (by omega)]; simp)]
    rfl
end Go.Proofs.Ytdhknnaholaohaa.Pure
