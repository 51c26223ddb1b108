/- The pure side of the law WeakApart: a strong class in the middle parts the list. -/
import Derived.Test.YtdhknnaholaohaaP15
import Derived.Test.YtdhknnaholaohaaPureAll
namespace Go.Proofs.Ytdhknnaholaohaa.Pure
open Go.RowKit Go.Proofs.Ytdhknnaholaohaa.P Go.Proofs.YtdhknnaholaohaaW.PrintWords Go.Proofs.YtdhknnaholaohaaW.PrintLast
set_option linter.unusedSectionVars false
theorem rd_left (u v : List Int) (q : Nat) (h : q < u.length) : rd (u ++ v) (q : Int) = rd u (q : Int) := by
  rw [rd_at _ _ (by rw [List.length_append]; omega), rd_at _ _ h, List.getElem_append_left h]
theorem rd_right (u v : List Int) (p : Nat) : rd (u ++ v) ((u.length + p : Nat) : Int) = rd v (p : Int) := by
  unfold rd
  rw [Int.toNat_natCast, Int.toNat_natCast, List.getD_eq_getElem?_getD, List.getD_eq_getElem?_getD, List.getElem?_append_right (by omega), Nat.add_sub_cancel_left]
/-- u ends with the strong e at its place n. -/
structure Cut (u v : List Int) (n : Nat) (e : Int) : Prop where
  len : u.length = n + 1
  at_e : rd u (n : Int) = e
  strong : e = 0 ∨ e = 1
section
variable {u v : List Int} {n : Nat} {e : Int} (C : Cut u v n e) (a : Int)
include C
theorem m1_left : ∀ q : Nat, q < u.length → m1 (u ++ v) a q = m1 u a q
  | 0, h => by rw [m1, m1, rd_left _ _ _ h]
  | q + 1, h => by rw [m1, m1, m1_left q (by omega), rd_left _ _ _ h]
theorem m1_right (h0 : rd v ((0 : Nat) : Int) ≠ 8) : ∀ p : Nat, m1 (u ++ v) a (u.length + p) = m1 v e p
  | 0 => by
    have h : rd (u ++ v) ((u.length + 0 : Nat) : Int) ≠ 8 := by rw [rd_right]; exact h0
    rw [m1_of _ a _ h, m1_of v e 0 h0, rd_right]
  | p + 1 => by
    have ih := m1_right h0 p
    have hr := rd_right u v (p + 1)
    rw [show u.length + (p + 1) = (u.length + p) + 1 from rfl] at hr ⊢
    rw [m1, m1, ih, hr]
theorem sb_left : ∀ q : Nat, q ≤ u.length → sb (u ++ v) a q = sb u a q
  | 0, _ => rfl
  | q + 1, h => by rw [sb, sb, sb_left q (by omega), rd_left _ _ _ (by omega)]
theorem sb_right : ∀ p : Nat, sb (u ++ v) a (u.length + p) = sb v e p
  | 0 => by
    have h1 := C.at_e
    have hl : n < u.length := by rw [C.len]; omega
    rw [Nat.add_zero, C.len, show sb v e 0 = e from rfl, sb, rd_left _ _ _ hl, h1]
    rcases C.strong with g | g <;> rw [g] <;> rfl
  | p + 1 => by
    have ih := sb_right p
    have hr := rd_right u v p
    rw [show u.length + (p + 1) = (u.length + p) + 1 from rfl, sb, sb, ih, hr]
theorem s4_left : ∀ q : Nat, q < u.length → s4 (u ++ v) q = s4 u q
  | 0, h => by rw [s4, s4, rd_left _ _ _ h]
  | q + 1, h => by
    have hl := C.len
    by_cases c : q + 1 = n
    · have h1 := C.at_e
      have h2 : rd (u ++ v) ((q + 1 : Nat) : Int) = e := by rw [rd_left _ _ _ h, c, h1]
      have hs := C.strong
      rw [s4_of _ _ (by omega) (by omega), s4_of _ _ (by rw [c]; omega) (by rw [c]; omega), rd_left _ _ _ h]
    · have ih := s4_left q (by omega)
      rw [s4, s4, ih, rd_left _ _ _ h, rd_left _ _ (q + 2) (by omega)]
      have e1 : (q + 2 < (u ++ v).length) = (q + 2 < u.length) := by rw [List.length_append]; exact propext ⟨fun _ => by omega, fun _ => by omega⟩
      simp only [e1]
theorem s4_right : ∀ p : Nat, s4 (u ++ v) (u.length + p) = s4 v p
  | 0 => by
    have hl := C.len
    have hs := C.strong
    have h1 := C.at_e
    have hr := rd_right u v 0
    have hn : s4 (u ++ v) n = e := by
      have : rd (u ++ v) (n : Int) = e := by rw [rd_left _ _ _ (by omega), h1]
      rw [s4_of _ _ (by omega) (by omega), this]
    rw [Nat.add_zero] at hr ⊢
    rw [hl] at hr ⊢
    rw [show s4 v 0 = rd v ((0 : Nat) : Int) from rfl, s4, hn, if_neg (fun h => by rcases h.2.2.1 with g | g <;> omega), hr]
  | p + 1 => by
    have ih := s4_right p
    have h1 := rd_right u v (p + 1)
    have h2 := rd_right u v (p + 2)
    rw [show u.length + (p + 1) = (u.length + p) + 1 from rfl] at h1 ⊢
    rw [show u.length + (p + 2) = (u.length + p) + 2 from rfl] at h2
    rw [s4, s4, ih, h1, h2]
    have e1 : (u.length + p + 2 < (u ++ v).length) = (p + 2 < v.length) := by rw [List.length_append]; exact propext ⟨fun _ => by omega, fun _ => by omega⟩
    simp only [e1]
theorem lf_left : ∀ q : Nat, q ≤ u.length → lf (u ++ v) q = lf u q
  | 0, _ => rfl
  | q + 1, h => by rw [lf, lf, lf_left q (by omega), rd_left _ _ _ (by omega)]
theorem lf_right : ∀ p : Nat, lf (u ++ v) (u.length + p) = lf v p
  | 0 => by
    have h1 := C.at_e
    have hs := C.strong
    have hl := C.len
    rw [Nat.add_zero, hl, show lf v 0 = false from rfl, lf, rd_left _ _ _ (by omega), h1, if_neg (by omega), beq_eq_false_iff_ne.2 (by omega)]
  | p + 1 => by
    have ih := lf_right p
    have hr := rd_right u v p
    rw [show u.length + (p + 1) = (u.length + p) + 1 from rfl, lf, lf, ih, hr]
theorem rg_left : ∀ (d q x y : Nat), q + d = n → d < x → d < y → rg (u ++ v) x q = rg u y q
  | d, q, 0, y, _, h, _ => by omega
  | d, q, x + 1, 0, _, _, h => by omega
  | 0, q, x + 1, y + 1, h, _, _ => by
    have h1 := C.at_e
    have hs := C.strong
    have hl := C.len
    obtain rfl : q = n := by omega
    rw [rg, rg, rd_left _ _ _ (by omega), h1, if_neg (by omega), if_neg (by omega)]
  | d + 1, q, x + 1, y + 1, h, h2, h3 => by
    have hl := C.len
    rw [rg, rg, rg_left d (q + 1) x y (by omega) (by omega) (by omega), rd_left _ _ _ (by omega)]
theorem rg_right : ∀ (d p : Nat), rg (u ++ v) d (u.length + p) = rg v d p
  | 0, p => rfl
  | d + 1, p => by
    have ih := rg_right d (p + 1)
    have hr := rd_right u v p
    rw [rg, rg, show u.length + p + 1 = u.length + (p + 1) from rfl, ih, hr]
theorem rN_left (j : Nat) (hj : j < 7) (q : Nat) (h : q < u.length) : rN j a (u ++ v) q = rN j a u q := by
  have hr := rd_left u v q h
  have hl := C.len
  match j, hj with
  | 0, _ => exact m1_left C a q h
  | 1, _ => show b1 2 6 _ a q = b1 2 6 _ a q; rw [b1, b1, sb_left C a q (by omega), hr]
  | 2, _ => show r3 _ q = r3 _ q; rw [r3, r3, hr]
  | 3, _ => exact s4_left C q h
  | 4, _ =>
    show t5 _ q = t5 _ q
    rw [t5, t5, lf_left C q (by omega), hr, rg_left C (n - q) q ((u ++ v).length - q) (u.length - q) (by omega) (by rw [List.length_append]; omega) (by omega)]
  | 5, _ => show o6 _ q = o6 _ q; rw [o6, o6, hr]
  | 6, _ => show b1 0 0 _ a q = b1 0 0 _ a q; rw [b1, b1, sb_left C a q (by omega), hr]
theorem rN_right (j : Nat) (hj : j < 7) (h0 : j = 0 → rd v ((0 : Nat) : Int) ≠ 8) (p : Nat) : rN j a (u ++ v) (u.length + p) = rN j e v p := by
  have hr := rd_right u v p
  match j, hj with
  | 0, _ => exact m1_right C a (h0 rfl) p
  | 1, _ => show b1 2 6 _ a (u.length + p) = b1 2 6 _ e p; rw [b1, b1, sb_right C a p, hr]
  | 2, _ => show r3 _ (u.length + p) = r3 _ p; rw [r3, r3, hr]
  | 3, _ => exact s4_right C p
  | 4, _ =>
    show t5 _ (u.length + p) = t5 _ p
    rw [t5, t5, lf_right C p, hr, show (u ++ v).length - (u.length + p) = v.length - p by rw [List.length_append]; omega, rg_right C]
  | 5, _ => show o6 _ (u.length + p) = o6 _ p; rw [o6, o6, hr]
  | 6, _ => show b1 0 0 _ a (u.length + p) = b1 0 0 _ e p; rw [b1, b1, sb_right C a p, hr]
theorem RN_part (j : Nat) (hj : j < 7) (h0 : j = 0 → rd v ((0 : Nat) : Int) ≠ 8) : RN j a (u ++ v) = RN j a u ++ RN j e v := by
  unfold RN
  refine List.ext_getElem (by simp) (fun i h1 h2 => ?_)
  simp only [List.getElem_map, List.getElem_range]
  by_cases c : i < u.length
  · rw [List.getElem_append_left (by simpa using c)]
    simp only [List.getElem_map, List.getElem_range]
    exact rN_left C a j hj i c
  · obtain ⟨p, rfl⟩ : ∃ p, i = u.length + p := ⟨i - u.length, by omega⟩
    rw [List.getElem_append_right (by simp)]
    simp only [List.getElem_map, List.getElem_range, List.length_map, List.length_range]
    rw [rN_right C a j hj h0 p]
    congr 1
    omega
theorem cut_RN (j : Nat) (hj : j < 7) (w : List Int) : Cut (RN j a u) w n e := by
  have hl := C.len
  have h1 := C.at_e
  have hs := C.strong
  refine ⟨by rw [RN_len, hl], ?_, hs⟩
  rw [rd_RN _ _ _ _ (by omega), stay j hj a u n (by omega), h1]
end
theorem RA_part (a : Int) (e : Int) (n : Nat) : ∀ (d j : Nat) (u v : List Int), Cut u v n e → j + d = 7 → (j = 0 → rd v ((0 : Nat) : Int) ≠ 8) → RA a d j (u ++ v) = RA a d j u ++ RA e d j v
  | 0, j, u, v, _, _, _ => rfl
  | d + 1, j, u, v, C, hj, h0 => by
    rw [RA, RA, RA, RN_part C a j (by omega) h0]
    exact RA_part a e n d (j + 1) _ _ (cut_RN C a j (by omega) _) (by omega) (fun h => absurd h (by omega))
theorem apart_in (k : Nat) (hk : 1000 ≤ k) (l : List Int) (hl : l.length ≤ 150) (i : Nat) (hi : i + 1 < l.length) (s e : Int) (he : rd l (i : Int) = e) (ha : e = 0 ∨ e = 1) (h8 : rd l ((i + 1 : Nat) : Int) ≠ 8) : frisketlaw10_WeakApart.j0 (k + 1) l ((i + 1 : Nat) : Int) s false = some true := by
  obtain ⟨a, hs, haa⟩ := side_f s
  have e2 : Aside0 (wrap64 (((i + 1 : Nat) : Int) - 1) = (i : Int)) := ⟨(w64 (by omega) (by omega)).trans (by omega)⟩
  have ht : (l.take (i + 1)).length = i + 1 := by rw [List.length_take]; omega
  have hd : (l.drop (i + 1)).length = l.length - (i + 1) := List.length_drop
  have n1 := AP_len a (l.take (i + 1))
  have n2 := AP_len e (l.drop (i + 1))
  have n3 := AP_len a l
  have hc : Cut (l.take (i + 1)) (l.drop (i + 1)) i e := by
    refine ⟨ht, ?_, ha⟩
    rw [← he, ← rd_left (l.take (i + 1)) (l.drop (i + 1)) i (by omega), List.take_append_drop]
  have h0 : rd (l.drop (i + 1)) ((0 : Nat) : Int) ≠ 8 := by
    have := rd_right (l.take (i + 1)) (l.drop (i + 1)) 0
    rw [List.take_append_drop, ht] at this
    rw [← this]; exact h8
  have key : AP a (l.take (i + 1) ++ l.drop (i + 1)) = AP a (l.take (i + 1)) ++ AP e (l.drop (i + 1)) := RA_part a e i 7 0 _ _ hc rfl (fun _ => h0)
  rw [List.take_append_drop] at key
  have g1 := all_f a haa l (by omega)
  have g2 := all_f a haa (l.take (i + 1)) (by omega)
  have g3 := all_f e ha (l.drop (i + 1)) (by omega)
  generalize AP a l = x at key g1 n3
  generalize AP a (l.take (i + 1)) = y at key g2 n1
  generalize AP e (l.drop (i + 1)) = z at key g3 n2
  rw [frisketlaw10_WeakApart.j0, if_neg (by decide), hs, Option.bind_some, g1, Option.bind_some, if_pos (by omega), if_pos (by omega), Option.bind_some, Int.toNat_natCast, g2, Option.bind_some, e2.out, if_pos (by omega), if_pos (by omega), he, g3, Option.bind_some, if_pos (show y.length + z.length < 17592186044416 by omega), alive10 _ (by omega), Option.bind_some, if_pos rfl, if_pos (show (0 : Int) = 0 from rfl), if_pos (show (0 : Int) = 0 from rfl), if_pos (show (0 : Int) = 0 from rfl), same_eq _ _ key (by omega) _ (by omega)]
  rfl
theorem WeakApart : ∀ (l0 : List Int) (a1 : Int) (a2 : Int), l0.length * 8 ≤ 140737488351232 → l0.length ≤ maxLen → (∀ e ∈ l0, (Lit.int .i64 e).wf = true) → (Lit.int .i64 a1).wf = true → (Lit.int .i64 a2).wf = true → ∃ k, frisketlaw10_WeakApart.f k l0 a1 a2 = some true := by
  intro l x s _ _ _ _ _
  refine ⟨3000, ?_⟩
  have out : frisketlaw10_WeakApart.j0 3000 l x s true = some true := by
    rw [show (3000 : Nat) = 2999 + 1 from rfl, frisketlaw10_WeakApart.j0, if_pos rfl, alive10 _ (by omega)]; rfl
  unfold frisketlaw10_WeakApart.f
  by_cases c : (l.length : Int) > 150
  · rw [if_pos c]; exact out
  · rw [if_neg c]
    by_cases c1 : x < 1
    · rw [if_pos c1]; exact out
    · rw [if_neg c1]
      by_cases c2 : x ≥ (l.length : Int)
      · rw [if_pos c2]; exact out
      · rw [if_neg c2]
        obtain ⟨i, rfl⟩ : ∃ i : Nat, x = ((i + 1 : Nat) : Int) := ⟨(x - 1).toNat, by omega⟩
        have e2 : Aside0 (wrap64 (((i + 1 : Nat) : Int) - 1) = (i : Int)) := ⟨(w64 (by omega) (by omega)).trans (by omega)⟩
        have go : ∀ e : Int, rd l (i : Int) = e → (e = 0 ∨ e = 1) → frisketlaw10_WeakApart.j0 3000 l ((i + 1 : Nat) : Int) s (rd l ((i + 1 : Nat) : Int) == 8) = some true := by
          intro e he ha
          by_cases c8 : rd l ((i + 1 : Nat) : Int) = 8
          · rw [beq_iff_eq.2 c8]; exact out
          · rw [beq_eq_false_iff_ne.2 c8]
            exact apart_in 2999 (by omega) l (by omega) i (by omega) s e he ha c8
        rw [e2.out, if_pos (show (0 : Int) ≤ (i : Int) by omega), if_pos (show (i : Int) < (l.length : Int) by omega), if_pos (show (0 : Int) ≤ ((i + 1 : Nat) : Int) by omega), if_pos (show ((i + 1 : Nat) : Int) < (l.length : Int) by omega)]
        by_cases g0 : rd l (i : Int) = 0
        · rw [if_pos g0]; exact go 0 g0 (.inl rfl)
        · rw [if_neg g0]
          by_cases g1 : rd l (i : Int) = 1
          · rw [if_pos g1]; exact go 1 g1 (.inr rfl)
          · rw [if_neg g1]; exact out
end Go.Proofs.Ytdhknnaholaohaa.Pure
