/- The pure side of the law NeutralApart. -/
import Derived.Test.YtplindcfnlonbaaP19
import Derived.Test.YtplindcfnlonbaaPureAll
namespace Go.Proofs.Ytplindcfnlonbaa.Pure
open Go.RowKit Go.Proofs.Ytplindcfnlonbaa.P Go.Proofs.YtplindcfnlonbaaW.PrintWords Go.Proofs.YtplindcfnlonbaaW.PrintLast
set_option linter.unusedSectionVars false
theorem rd_left (u v : List Int) (q : Nat) (h : q < u.length) : rd (u ++ v) (q : Int) = rd u (q : Int) := by
  rw [rd_at _ _ (by rw [List.length_append]; omega), rd_at _ _ h, List.getElem_append_left h]
theorem rd_right (u v : List Int) (p : Nat) : rd (u ++ v) ((u.length + p : Nat) : Int) = rd v (p : Int) := by
  unfold rd
  rw [Int.toNat_natCast, Int.toNat_natCast, List.getD_eq_getElem?_getD, List.getD_eq_getElem?_getD, List.getElem?_append_right (by omega), Nat.add_sub_cancel_left]
/-- u ends with the strong e at its place n. -/
structure Cut (u v : List Int) (n : Nat) (e : Int) : Prop where
  len : u.length = n + 1
  at_e : rd u (n : Int) = e
  strong : e = 0 ∨ e = 1
theorem side_01 {e : Int} (h : e = 0 ∨ e = 1) : sideF e = e := by rcases h with rfl | rfl <;> rfl
section
variable {u v : List Int} {n : Nat} {e : Int} (C : Cut u v n e) (fi la : Int)
include C
theorem ah_left : ∀ q : Nat, q ≤ u.length → ah (u ++ v) fi q = ah u fi q
  | 0, _ => rfl
  | q + 1, h => by rw [ah, ah, ah_left q (by omega), rd_left _ _ _ (by omega)]
theorem ah_right : ∀ p : Nat, ah (u ++ v) fi (u.length + p) = ah v e p
  | 0 => by
    have h1 := C.at_e
    have hl : n < u.length := by rw [C.len]; omega
    rw [Nat.add_zero, C.len, show ah v e 0 = e from rfl, ah, rd_left _ _ _ hl, h1, neu_01 C.strong, if_neg (by decide), side_01 C.strong]
  | p + 1 => by
    have ih := ah_right p
    have hr := rd_right u v p
    rw [show u.length + (p + 1) = (u.length + p) + 1 from rfl, ah, ah, ih, hr]
theorem be_left : ∀ (d q x y : Nat), q + d = n → d < x → d < y → be (u ++ v) la x q = be u e y q
  | d, q, 0, y, _, h, _ => by omega
  | d, q, x + 1, 0, _, _, h => by omega
  | 0, q, x + 1, y + 1, h, _, _ => by
    have h1 := C.at_e
    have hl := C.len
    obtain rfl : q = n := by omega
    rw [be, be, rd_left _ _ _ (by omega), h1, neu_01 C.strong, if_neg (by decide), if_neg (by decide)]
  | d + 1, q, x + 1, y + 1, h, h2, h3 => by
    have hl := C.len
    rw [be, be, be_left d (q + 1) x y (by omega) (by omega) (by omega), rd_left _ _ _ (by omega)]
theorem be_right : ∀ (d p : Nat), be (u ++ v) la d (u.length + p) = be v la d p
  | 0, p => rfl
  | d + 1, p => by
    have ih := be_right d (p + 1)
    have hr := rd_right u v p
    rw [be, be, show u.length + p + 1 = u.length + (p + 1) from rfl, ih, hr]
theorem SL_part (own : Int) : SL own fi la (u ++ v) = SL own fi e u ++ SL own e la v := by
  have hl := C.len
  unfold SL
  refine List.ext_getElem (by simp) (fun i h1 h2 => ?_)
  simp only [List.getElem_map, List.getElem_range]
  by_cases c : i < u.length
  · rw [List.getElem_append_left (by simpa using c)]
    simp only [List.getElem_map, List.getElem_range]
    unfold sN
    rw [rd_left _ _ _ c, ah_left C fi i (by omega), be_left C la (n - i) i ((u ++ v).length - i) (u.length - i) (by omega) (by rw [List.length_append]; omega) (by omega)]
  · obtain ⟨p, rfl⟩ : ∃ p, i = u.length + p := ⟨i - u.length, by omega⟩
    rw [List.getElem_append_right (by simp)]
    simp only [List.getElem_map, List.getElem_range, List.length_map, List.length_range]
    rw [Nat.add_sub_cancel_left]
    unfold sN
    rw [rd_right, ah_right C, show (u ++ v).length - (u.length + p) = v.length - p by rw [List.length_append]; omega, be_right C]
end
theorem apart_in (k : Nat) (hk : 1000 ≤ k) (l : List Int) (hl : l.length ≤ 150) (i : Nat) (hi : i + 1 < l.length) (lv fi la e : Int) (he : rd l (i : Int) = e) (ha : e = 0 ∨ e = 1) : frisketlaw12_NeutralApart.j0 (k + 1) l ((i + 1 : Nat) : Int) false lv fi la = some true := by
  have e2 : Aside0 (wrap64 (((i + 1 : Nat) : Int) - 1) = (i : Int)) := ⟨(w64 (by omega) (by omega)).trans (by omega)⟩
  have ht : (l.take (i + 1)).length = i + 1 := by rw [List.length_take]; omega
  have hd : (l.drop (i + 1)).length = l.length - (i + 1) := List.length_drop
  have n1 := SL_len (ownF lv) fi e (l.take (i + 1))
  have n2 := SL_len (ownF lv) e la (l.drop (i + 1))
  have n3 := SL_len (ownF lv) fi la l
  have hc : Cut (l.take (i + 1)) (l.drop (i + 1)) i e := by
    refine ⟨ht, ?_, ha⟩
    rw [← he, ← rd_left (l.take (i + 1)) (l.drop (i + 1)) i (by omega), List.take_append_drop]
  have key := SL_part hc fi la (ownF lv)
  rw [List.take_append_drop] at key
  rw [frisketlaw12_NeutralApart.j0, if_neg (by decide), seq12, Option.bind_some]
  simp only []
  by_cases h : OkS lv fi la
  · have g1 := settle_f l lv fi la h (by omega)
    have g2 := settle_f (l.take (i + 1)) lv fi e ⟨h.1, h.2.1, h.2.2.1, ha⟩ (by omega)
    have g3 := settle_f (l.drop (i + 1)) lv e la ⟨h.1, h.2.1, ha, h.2.2.2⟩ (by omega)
    generalize SL (ownF lv) fi la l = x at key g1 n3
    generalize SL (ownF lv) fi e (l.take (i + 1)) = y at key g2 n1
    generalize SL (ownF lv) e la (l.drop (i + 1)) = z at key g3 n2
    rw [g1, Option.bind_some, if_pos (by omega), if_pos (by omega), e2.out, if_pos (by omega), if_pos (by omega), Int.toNat_natCast, he, g2, Option.bind_some, g3, Option.bind_some]
    simp only []
    rw [if_pos trivial, if_pos (show y.length + z.length < 17592186044416 by omega), alive12 _ (by omega), Option.bind_some, if_pos rfl, if_pos trivial, if_pos trivial, same_eq _ _ key (by omega) _ (by omega)]
    rfl
  · rw [settle_no l lv fi la h, Option.bind_some, if_pos (by omega), if_pos (by omega), e2.out, if_pos (by omega), if_pos (by omega), Int.toNat_natCast, he]
    by_cases h1 : OkS lv fi e
    · have h2 : ¬ OkS lv e la := fun g => h ⟨h1.1, h1.2.1, h1.2.2.1, g.2.2.2⟩
      rw [settle_f _ lv fi e h1 (by omega), Option.bind_some, settle_no _ lv e la h2, Option.bind_some]
      simp only []
      rw [if_neg (by decide), alive12 _ (by omega), Option.bind_some, if_pos rfl, if_pos trivial]
      rfl
    · obtain ⟨R, r1, _, _⟩ := settleBoth (l.drop (i + 1)) (by omega) lv e la
      rw [settle_no _ lv fi e h1, Option.bind_some, r1, Option.bind_some]
      simp only []
      rw [if_neg (by decide), alive12 _ (by omega), Option.bind_some, if_pos rfl, if_neg (by decide)]
theorem NeutralApart : ∀ (l0 : List Int) (a1_0 : Int) (a1_1 : Int) (a1_2 : Int) (a2 : Int), l0.length * 8 ≤ 140737488351232 → l0.length ≤ maxLen → (∀ e ∈ l0, (Lit.int .i64 e).wf = true) → (Lit.int .i64 a1_0).wf = true → (Lit.int .i64 a1_1).wf = true → (Lit.int .i64 a1_2).wf = true → (Lit.int .i64 a2).wf = true → ∃ k, frisketlaw12_NeutralApart.f k l0 a1_0 a1_1 a1_2 a2 = some true := by
  intro l lv fi la x _ _ _ _ _ _ _
  refine ⟨3000, ?_⟩
  have out : frisketlaw12_NeutralApart.j0 3000 l x true lv fi la = some true := by
    rw [show (3000 : Nat) = 2999 + 1 from rfl, frisketlaw12_NeutralApart.j0, if_pos rfl, alive12 _ (by omega)]; rfl
  unfold frisketlaw12_NeutralApart.f
  by_cases c : (l.length : Int) > 150
  · rw [if_pos c]; exact out
  · rw [if_neg c]
    by_cases c1 : x < 1
    · rw [if_pos c1]; exact out
    · rw [if_neg c1]
      by_cases c2 : x ≥ (l.length : Int)
      · rw [if_pos c2]; exact out
      · rw [if_neg c2]
        obtain ⟨i, rfl⟩ : ∃ i : Nat, x = ((i + 1 : Nat) : Int) := ⟨(x - 1).toNat, by omega⟩
        have e2 : Aside0 (wrap64 (((i + 1 : Nat) : Int) - 1) = (i : Int)) := ⟨(w64 (by omega) (by omega)).trans (by omega)⟩
        rw [e2.out, if_pos (show (0 : Int) ≤ (i : Int) by omega), if_pos (show (i : Int) < (l.length : Int) by omega)]
        by_cases g0 : rd l (i : Int) = 0
        · rw [if_pos g0]; exact apart_in 2999 (by omega) l (by omega) i (by omega) lv fi la 0 g0 (.inl rfl)
        · rw [if_neg g0]
          by_cases g1 : rd l (i : Int) = 1
          · rw [g1]; exact apart_in 2999 (by omega) l (by omega) i (by omega) lv fi la 1 g1 (.inr rfl)
          · rw [bne_iff_ne.2 g1]; exact out
end Go.Proofs.Ytplindcfnlonbaa.Pure
