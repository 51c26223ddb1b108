/- What neutral.Settle makes of a list, place by place, and the document's own. -/
import Derived.Test.YtplindcfnlonbaaP7
import Derived.Test.YtplindcfnlonbaaP8
import Derived.Test.YtplindcfnlonbaaP6
import Derived.Test.YtplindcfnlonbaaP14
import Derived.Test.YtplindcfnlonbaaP15
import Derived.Test.YtplindcfnlonbaaHSetDef
namespace Go.Proofs.Ytplindcfnlonbaa.Pure
open Go.RowKit Go.Proofs.Ytplindcfnlonbaa.P Go.Proofs.YtplindcfnlonbaaW.PrintWords Go.Proofs.YtplindcfnlonbaaW.PrintLast Go.Proofs.YtplindcfnlonbaaW.PrintMore
set_option linter.unusedVariables false
set_option linter.unusedSimpArgs false

theorem w64 {a : Int} (h : -9223372036854775808 ≤ a) (h' : a ≤ 9223372036854775807) : wrap64 a = a := by unfold wrap64; omega
theorem rd_at (l : List Int) (i : Nat) (h : i < l.length) : rd l (i : Int) = l[i] := by
  unfold rd
  simp [List.getD_eq_getElem?_getD, List.getElem?_eq_getElem h]
theorem rd_in {l : List Int} {i : Nat} {x : Int} (h : rd l (i : Int) = x) (hx : x ≠ 0) : i < l.length := by
  by_cases g : i < l.length
  · exact g
  · exfalso
    apply hx
    rw [← h]
    unfold rd
    rw [Int.toNat_natCast, List.getD_eq_getElem?_getD, List.getElem?_eq_none (by omega)]
    rfl
theorem rdm (f : Nat → Int) (n i : Nat) (h : i < n) : rd ((List.range n).map f) (i : Int) = f i := by
  rw [rd_at _ i (by simpa using h)]
  simp
theorem rm_succ (f : Nat → Int) (n : Nat) : (List.range (n + 1)).map f = (List.range n).map f ++ [f n] := by
  rw [List.range_succ, List.map_append]
  rfl
theorem same_l0 (a : List Int) (ha : a.length ≤ 1099511627776) (d : Nat) : ∀ (j k : Nat), a.length - j = d → d + 1 ≤ k → frisketlaw08_Same.l0 k a a j = some true := by
  induction d with
  | zero =>
    intro j k hd hk
    obtain ⟨k, rfl⟩ : ∃ q, k = q + 1 := ⟨k - 1, by omega⟩
    simp only [frisketlaw08_Same.l0]
    rw [if_neg (by omega)]
  | succ d ih =>
    intro j k hd hk
    obtain ⟨k, rfl⟩ : ∃ q, k = q + 1 := ⟨k - 1, by omega⟩
    have e2 : wrap64 ((j : Int) + 1) = ((j + 1 : Nat) : Int) := (w64 (by omega) (by omega)).trans (by omega)
    simp only [frisketlaw08_Same.l0]
    rw [if_pos (by omega), if_pos (by omega), if_pos (by omega), if_pos trivial, e2]
    exact ih (j + 1) k (by omega) (by omega)
theorem same_eq (a b : List Int) (h : a = b) (ha : a.length ≤ 1099511627776) (k : Nat) (hk : a.length + 1 ≤ k) : frisketlaw08_Same.f k a b = some true := by
  subst h
  unfold frisketlaw08_Same.f
  rw [if_pos rfl]
  exact same_l0 a ha a.length 0 k (by omega) hk
/-- A list of which the first i places are f's. -/
def mix (f : Nat → Int) (l : List Int) (i : Nat) : List Int := (List.range i).map f ++ l.drop i
theorem mix_len (f : Nat → Int) (l : List Int) (i : Nat) (h : i ≤ l.length) : (mix f l i).length = l.length := by
  unfold mix
  rw [List.length_append, List.length_map, List.length_range, List.length_drop]
  omega
theorem mix_rd (f : Nat → Int) (l : List Int) (i j : Nat) : rd (mix f l i) (j : Int) = if j < i then f j else rd l (j : Int) := by
  unfold mix rd
  rw [Int.toNat_natCast, List.getD_eq_getElem?_getD]
  by_cases h : j < i
  · rw [if_pos h, List.getElem?_append_left (by simpa using h)]
    simp [h]
  · rw [if_neg h, List.getElem?_append_right (by simp; omega), List.length_map, List.length_range, List.getElem?_drop, List.getD_eq_getElem?_getD]
    congr 2
    omega
theorem mix_keep (f : Nat → Int) (l : List Int) (i : Nat) (h : i < l.length) (e : rd l (i : Int) = f i) : mix f l i = mix f l (i + 1) := by
  unfold mix
  rw [rm_succ, List.drop_eq_getElem_cons h, ← e, rd_at l i h, List.append_assoc]
  rfl
theorem mix_set (f : Nat → Int) (l : List Int) (i : Nat) (h : i < l.length) (v : Int) (e : v = f i) : (mix f l i).set i v = mix f l (i + 1) := by
  subst e
  unfold mix
  rw [List.set_append_right _ _ (by simp)]
  simp only [List.length_map, List.length_range, Nat.sub_self]
  rw [rm_succ, List.drop_eq_getElem_cons h, List.set_cons_zero, List.append_assoc]
  rfl
theorem mix_0 (f : Nat → Int) (l : List Int) : mix f l 0 = l := by simp [mix]
theorem mix_end (f : Nat → Int) (l : List Int) : mix f l l.length = (List.range l.length).map f := by simp [mix]
theorem ints_l0 (a : List Int) (ha : a.length ≤ 1099511627776) (d : Nat) : ∀ (j k : Nat), a.length - j = d → d + 1 ≤ k → frisketref01_Ints.l0 k a a j = some true := by
  induction d with
  | zero =>
    intro j k hd hk
    obtain ⟨k, rfl⟩ : ∃ q, k = q + 1 := ⟨k - 1, by omega⟩
    simp only [frisketref01_Ints.l0]
    rw [if_neg (by omega)]
  | succ d ih =>
    intro j k hd hk
    obtain ⟨k, rfl⟩ : ∃ q, k = q + 1 := ⟨k - 1, by omega⟩
    have e2 : wrap64 ((j : Int) + 1) = ((j + 1 : Nat) : Int) := (w64 (by omega) (by omega)).trans (by omega)
    simp only [frisketref01_Ints.l0]
    rw [if_pos (by omega), if_pos (by omega), if_pos (by omega), if_pos trivial, e2]
    exact ih (j + 1) k (by omega) (by omega)
theorem ints_eq (a b : List Int) (h : a = b) (ha : a.length ≤ 1099511627776) (k : Nat) (hk : a.length + 1 ≤ k) : frisketref01_Ints.f k a b = some true := by
  subst h
  unfold frisketref01_Ints.f
  rw [if_pos rfl]
  exact ints_l0 a ha a.length 0 k (by omega) hk
/-- Whether a class is neutral. -/
def neu (c : Int) : Bool := c == 10 || c == 11 || c == 12 || c == 13 || c == 19 || c == 20 || c == 21 || c == 22
theorem neu_f (c : Int) : neutral_neutral.f c = some (neu c) := by
  unfold neutral_neutral.f neu
  repeat' split
  all_goals simp_all
theorem refneu_f (c : Int) : frisketref12_Neutral.f c = some (neu c) := by
  rw [← neu_f]; rfl
theorem side_val (c : Int) : sideF c = if c = 0 then 0 else if c = 1 ∨ c = 3 ∨ c = 6 then 1 else 9 := by
  unfold sideF neutral_side.f
  repeat' split
  all_goals simp_all
theorem refside_f (c : Int) : frisketref12_side.f c = some (if sideF c = 9 then 10 else sideF c) := by
  rw [side_val]
  unfold frisketref12_side.f
  repeat' split
  all_goals simp_all
/-- The side ahead of place i, over neutral ones; and the one behind. -/
def ah (l : List Int) (fi : Int) : Nat → Int
  | 0 => fi
  | i + 1 => if neu (rd l (i : Int)) = true then ah l fi i else sideF (rd l (i : Int))
def be (l : List Int) (la : Int) : Nat → Nat → Int
  | 0, _ => la
  | d + 1, i => if neu (rd l (i : Int)) = true then be l la d (i + 1) else sideF (rd l (i : Int))
def mid (own a b : Int) : Int := if a = b ∧ a ≠ 9 then a else own
def sN (l : List Int) (own fi la : Int) (i : Nat) : Int := if neu (rd l (i : Int)) = true then mid own (ah l fi i) (be l la (l.length - i) i) else rd l (i : Int)
theorem ah_run (l : List Int) (fi : Int) (i : Nat) : ∀ m : Nat, i ≤ m → (∀ q : Nat, i ≤ q → q < m → neu (rd l (q : Int)) = true) → ah l fi m = ah l fi i
  | 0, h, _ => by rw [show i = 0 by omega]
  | m + 1, h, hr => by
    by_cases e : i = m + 1
    · rw [e]
    · rw [ah, if_pos (hr m (by omega) (by omega))]
      exact ah_run l fi i m (by omega) (fun q h1 h2 => hr q h1 (by omega))
theorem be_run (l : List Int) (la : Int) (tq : Nat) (hto : tq ≤ l.length) : ∀ (d i : Nat), i + d = tq → (∀ q : Nat, i ≤ q → q < tq → neu (rd l (q : Int)) = true) → be l la (l.length - i) i = be l la (l.length - tq) tq
  | 0, i, h, _ => by rw [show i = tq by omega]
  | d + 1, i, h, hr => by
    obtain ⟨e, he⟩ : ∃ e, l.length - i = e + 1 := ⟨l.length - i - 1, by omega⟩
    have ih := be_run l la tq hto d (i + 1) (by omega) (fun q h1 h2 => hr q (by omega) h2)
    rw [← ih, he, be, if_pos (hr i (Nat.le_refl _) (by omega)), show l.length - (i + 1) = e by omega]
theorem be_at (l : List Int) (la : Int) (i : Nat) (h : i < l.length) (hn : neu (rd l (i : Int)) = false) : be l la (l.length - i) i = sideF (rd l (i : Int)) := by
  obtain ⟨e, he⟩ : ∃ e, l.length - i = e + 1 := ⟨l.length - i - 1, by omega⟩
  rw [he, be, if_neg (by rw [hn]; decide)]
theorem be_end (l : List Int) (la : Int) : be l la (l.length - l.length) l.length = la := by rw [Nat.sub_self]; rfl
/-- Filling a run whose places all become v. -/
theorem fill_mix (f : Nat → Int) (l : List Int) (v : Int) (tq : Nat) (hto : tq ≤ l.length) : ∀ (d i : Nat), i + d = tq → (∀ q : Nat, i ≤ q → q < tq → f q = v) → fillN d i v (mix f l i) = mix f l tq
  | 0, i, h, _ => by rw [show i = tq by omega]; rfl
  | d + 1, i, h, hr => by
    rw [fillN, mix_set f l i (by omega) v (hr i (Nat.le_refl _) (by omega)).symm]
    exact fill_mix f l v tq hto d (i + 1) (by omega) (fun q h1 h2 => hr q (by omega) h2)
/-- One stretch. -/
theorem stretch_mix (l : List Int) (own fi la : Int) (fr tq : Nat) (h : fr < tq) (hto : tq ≤ l.length) (hr : ∀ q : Nat, fr ≤ q → q < tq → neu (rd l (q : Int)) = true) (hf : fr = 0 ∨ neu (rd l ((fr - 1 : Nat) : Int)) = false) (ht : tq = l.length ∨ neu (rd l (tq : Int)) = false) :
    setS l own fi la (mix (sN l own fi la) l fr) ((fr : Int), (tq : Int)) = mix (sN l own fi la) l tq := by
  unfold setS
  rw [show ((tq : Int) - (fr : Int)).toNat = tq - fr by omega, Int.toNat_natCast]
  refine fill_mix _ l _ tq hto (tq - fr) fr (by omega) (fun q h1 h2 => ?_)
  have ea : ah l fi q = aheadF l fi ((fr : Int), (tq : Int)) := by
    rw [ah_run l fi fr q h1 (fun p g1 g2 => hr p g1 (by omega))]
    unfold aheadF
    cases fr with
    | zero => rfl
    | succ p =>
      have hp : neu (rd l (p : Int)) = false := by rcases hf with g | g; cases g; rwa [Nat.add_sub_cancel] at g
      rw [ah, if_neg (by rw [hp]; decide), if_pos (by simp only []; omega)]
      simp only []
      rw [show ((p + 1 : Nat) : Int) - 1 = (p : Int) by omega]
  have eb : be l la (l.length - q) q = behindF l la ((fr : Int), (tq : Int)) := by
    rw [be_run l la tq hto (tq - q) q (by omega) (fun p g1 g2 => hr p (by omega) g2)]
    unfold behindF
    by_cases c : tq = l.length
    · rw [c, be_end, if_neg (by simp only []; omega)]
    · have hn : neu (rd l (tq : Int)) = false := by rcases ht with g | g; exact absurd g c; exact g
      rw [be_at l la tq (by omega) hn, if_pos (by simp only []; omega)]
  unfold sN becF
  rw [if_pos (hr q h1 h2), ea, eb]
  rfl
theorem sN_keep (l : List Int) (own fi la : Int) (i : Nat) (hn : neu (rd l (i : Int)) = false) : sN l own fi la i = rd l (i : Int) := by
  unfold sN; rw [if_neg (by rw [hn]; decide)]
theorem fold_eq (l : List Int) (own fi la : Int) : ∀ (d i fr : Nat), i + d = l.length → fr ≤ i → (∀ q : Nat, fr ≤ q → q < i → neu (rd l (q : Int)) = true) → (fr = 0 ∨ neu (rd l ((fr - 1 : Nat) : Int)) = false) →
    (stN l d i fr).foldl (setS l own fi la) (mix (sN l own fi la) l fr) = (List.range l.length).map (sN l own fi la)
  | 0, i, fr, hi, hf, hr, h0 => by
    obtain rfl : i = l.length := by omega
    rw [stN, ← mix_end]
    by_cases c : fr < l.length
    · rw [if_pos c, List.foldl_cons, List.foldl_nil]
      exact stretch_mix l own fi la fr l.length c (Nat.le_refl _) hr h0 (.inl rfl)
    · rw [if_neg c, List.foldl_nil, show fr = l.length by omega]
  | d + 1, i, fr, hi, hf, hr, h0 => by
    rw [stN, neu_f]
    by_cases cn : neu (rd l (i : Int)) = true
    · rw [if_pos (by rw [cn])]
      refine fold_eq l own fi la d (i + 1) fr (by omega) (by omega) (fun q h1 h2 => ?_) h0
      by_cases e : q = i
      · rw [e]; exact cn
      · exact hr q h1 (by omega)
    · have cf : neu (rd l (i : Int)) = false := by simpa using cn
      have next := fold_eq l own fi la d (i + 1) (i + 1) (by omega) (Nat.le_refl _) (fun q h1 h2 => absurd h2 (by omega)) (.inr (by rw [Nat.add_sub_cancel]; exact cf))
      rw [← mix_keep (sN l own fi la) l i (by omega) (sN_keep l own fi la i cf).symm] at next
      rw [if_neg (by rw [cf]; decide)]
      by_cases c : fr < i
      · rw [if_pos c, List.foldl_cons, stretch_mix l own fi la fr i c (by omega) hr h0 (.inr cf)]
        exact next
      · rw [if_neg c, show fr = i by omega]
        exact next
def SL (own fi la : Int) (l : List Int) : List Int := (List.range l.length).map (sN l own fi la)
theorem SL_len (own fi la : Int) (l : List Int) : (SL own fi la l).length = l.length := by simp [SL]
theorem rd_SL (own fi la : Int) (l : List Int) (i : Nat) (h : i < l.length) : rd (SL own fi la l) (i : Int) = sN l own fi la i := rdm _ _ _ h
theorem upTo_eq (l : List Int) (own fi la : Int) : upTo l own fi la (stN l l.length 0 0) = SL own fi la l := by
  have := fold_eq l own fi la l.length 0 0 (by omega) (Nat.le_refl _) (fun q h1 h2 => absurd h2 (by omega)) (.inl rfl)
  rw [mix_0] at this
  exact this
def ownF (lv : Int) : Int := if Int.tmod lv 2 = 1 then 1 else 0
def OkS (lv fi la : Int) : Prop := 0 ≤ lv ∧ lv ≤ 125 ∧ (fi = 0 ∨ fi = 1) ∧ (la = 0 ∨ la = 1)
instance (lv fi la : Int) : Decidable (OkS lv fi la) := by unfold OkS; exact inferInstance
theorem settle_f (l : List Int) (lv fi la : Int) (h : OkS lv fi la) (hl : l.length < 17592186044416) : neutral_Settle.f l lv fi la = some (SL (ownF lv) fi la l, 0) := by
  unfold OkS at h
  unfold neutral_Settle.f
  rw [if_pos h, if_pos hl, upTo_eq]
  rfl
theorem settle_no (l : List Int) (lv fi la : Int) (h : ¬ OkS lv fi la) : neutral_Settle.f l lv fi la = some ([], 1) := by
  unfold OkS at h
  unfold neutral_Settle.f
  rw [if_neg h]
end Go.Proofs.Ytplindcfnlonbaa.Pure
