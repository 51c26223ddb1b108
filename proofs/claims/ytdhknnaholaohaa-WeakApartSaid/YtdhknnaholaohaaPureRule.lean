/- Each weak rule, place by place: the terminators, and all of them. -/
import Derived.Test.YtdhknnaholaohaaP21
import Derived.Test.YtdhknnaholaohaaP20
import Derived.Test.YtdhknnaholaohaaP17
import Derived.Test.YtdhknnaholaohaaP18
import Derived.Test.YtdhknnaholaohaaP19
import Derived.Test.YtdhknnaholaohaaP16
import Derived.Test.YtdhknnaholaohaaPureBase
namespace Go.Proofs.Ytdhknnaholaohaa.Pure
open Go.RowKit Go.Proofs.Ytdhknnaholaohaa.P Go.Proofs.YtdhknnaholaohaaW.PrintWords Go.Proofs.YtdhknnaholaohaaW.PrintLast Go.Proofs.YtdhknnaholaohaaW.PrintMore
set_option linter.unusedVariables false
set_option linter.unusedSimpArgs false

/-- Along a run of terminators nothing changes on its sides. -/
theorem lf_run (l : List Int) (i : Nat) : ∀ m : Nat, i ≤ m → (∀ q : Nat, i ≤ q → q < m → rd l (q : Int) = 5) → lf l m = lf l i
  | 0, h, _ => by rw [show i = 0 by omega]
  | m + 1, h, hr => by
    by_cases e : i = m + 1
    · rw [e]
    · rw [lf, if_pos (hr m (by omega) (by omega))]
      exact lf_run l i m (by omega) (fun q h1 h2 => hr q h1 (by omega))
theorem rg_run (l : List Int) (tq : Nat) (hto : tq ≤ l.length) : ∀ (d i : Nat), i + d = tq → (∀ q : Nat, i ≤ q → q < tq → rd l (q : Int) = 5) → rg l (l.length - i) i = rg l (l.length - tq) tq
  | 0, i, h, _ => by rw [show i = tq by omega]
  | d + 1, i, h, hr => by
    obtain ⟨e, he⟩ : ∃ e, l.length - i = e + 1 := ⟨l.length - i - 1, by omega⟩
    have ih := rg_run l tq hto d (i + 1) (by omega) (fun q h1 h2 => hr q (by omega) h2)
    rw [← ih, he, rg, if_pos (hr i (Nat.le_refl _) (by omega)), show l.length - (i + 1) = e by omega]
theorem rg_at (l : List Int) (i : Nat) (h : i < l.length) (h5 : rd l (i : Int) ≠ 5) : rg l (l.length - i) i = (rd l (i : Int) == 3) := by
  obtain ⟨e, he⟩ : ∃ e, l.length - i = e + 1 := ⟨l.length - i - 1, by omega⟩
  rw [he, rg, if_neg h5]
theorem rg_end (l : List Int) : rg l (l.length - l.length) l.length = false := by rw [Nat.sub_self]; rfl
theorem mix_run (l : List Int) (i tq : Nat) (hto : tq ≤ l.length) (hr : ∀ q : Nat, i ≤ q → q < tq → rd l (q : Int) = 5) (h : (lf l i || rg l (l.length - i) i) = false) : ∀ m : Nat, i ≤ m → m ≤ tq → mix (t5 l) l i = mix (t5 l) l m
  | 0, h1, _ => by rw [show i = 0 by omega]
  | m + 1, h1, h2 => by
    by_cases e : i = m + 1
    · rw [e]
    · rw [mix_run l i tq hto hr h m (by omega) (by omega)]
      refine mix_keep _ _ _ (by omega) ?_
      have e1 := lf_run l i m (by omega) (fun q g1 g2 => hr q g1 (by omega))
      have e2 : rg l (l.length - m) m = rg l (l.length - i) i := by
        rw [rg_run l tq hto (tq - m) m (by omega) (fun q g1 g2 => hr q (by omega) g2), rg_run l tq hto (tq - i) i (by omega) hr]
      unfold t5
      rw [e1, e2, h]
      simp
theorem ter_l2 (l : List Int) (hl : l.length ≤ 1000000) (i tq : Nat) (hto : tq ≤ l.length) (hi : i < tq) (hr : ∀ q : Nat, i ≤ q → q < tq → rd l (q : Int) = 5) (h : (lf l i || rg l (l.length - i) i) = true) (R : List Int) (B : Nat) (H : ∀ k, B ≤ k → weak_terminators.l0 k (mix (t5 l) l tq) (tq : Int) = some R) (d : Nat) :
    ∀ (m k : Nat), tq - m = d → i ≤ m → m ≤ tq → B + d + 1 ≤ k → weak_terminators.l2 k (mix (t5 l) l m) (tq : Int) (m : Int) = some R := by
  induction d with
  | zero =>
    intro m k hd h1 h2 hk
    obtain ⟨k, rfl⟩ : ∃ q, k = q + 1 := ⟨k - 1, by omega⟩
    obtain rfl : m = tq := by omega
    have e1 : Aside0 (wrap64 (wrap64 ((m : Int) - 1) + 1) = (m : Int)) := ⟨by rw [w64 (a := (m : Int) - 1) (by omega) (by omega), w64 (by omega) (by omega)]; omega⟩
    rw [weak_terminators.l2, if_neg (by omega), e1.out]
    exact H k (by omega)
  | succ d ih =>
    intro m k hd h1 h2 hk
    obtain ⟨k, rfl⟩ : ∃ q, k = q + 1 := ⟨k - 1, by omega⟩
    have e1 : Aside0 (wrap64 ((m : Int) + 1) = ((m + 1 : Nat) : Int)) := ⟨(w64 (by omega) (by omega)).trans (by omega)⟩
    have e3 := lf_run l i m h1 (fun q g1 g2 => hr q g1 (by omega))
    have e2 : rg l (l.length - m) m = rg l (l.length - i) i := by
      rw [rg_run l tq hto (tq - m) m (by omega) (fun q g1 g2 => hr q (by omega) g2), rg_run l tq hto (tq - i) i (by omega) hr]
    have ht : (3 : Int) = t5 l m := by
      unfold t5
      rw [e3, e2, if_pos ⟨hr m h1 (by omega), h⟩]
    rw [weak_terminators.l2, if_pos (by omega), if_pos (by omega), if_pos (by rw [mix_len _ _ _ (by omega)]; omega), e1.out, Int.toNat_natCast, mix_set (t5 l) l m (by omega) 3 ht]
    exact ih (m + 1) k (by omega) (by omega) (by omega) (by omega)
theorem ter_l0 (l : List Int) (hl : l.length ≤ 1000000) (d : Nat) : ∀ (i k : Nat), l.length - i ≤ d → i ≤ l.length → (i = 0 ∨ i = l.length ∨ rd l ((i - 1 : Nat) : Int) ≠ 5 ∨ rd l (i : Int) ≠ 5) → 7 * (l.length - i) + 2 ≤ k → weak_terminators.l0 k (mix (t5 l) l i) (i : Int) = some ((List.range l.length).map (t5 l)) := by
  induction d with
  | zero =>
    intro i k hd hi hs hk
    obtain ⟨k, rfl⟩ : ∃ q, k = q + 1 := ⟨k - 1, by omega⟩
    obtain rfl : i = l.length := by omega
    rw [weak_terminators.l0, if_neg (by rw [mix_len _ _ _ (Nat.le_refl _)]; omega), mix_end]
  | succ d ih =>
    intro i k hd hi hs hk
    obtain ⟨k, rfl⟩ : ∃ q, k = q + 1 := ⟨k - 1, by omega⟩
    have hml := mix_len (t5 l) l i hi
    by_cases ce : i = l.length
    · subst ce
      rw [weak_terminators.l0, if_neg (by omega), mix_end]
    · have e1 : Aside0 (wrap64 ((i : Int) + 1) = ((i + 1 : Nat) : Int)) := ⟨(w64 (by omega) (by omega)).trans (by omega)⟩
      rw [weak_terminators.l0, if_pos (by omega), if_pos (by omega), mix_rd, if_neg (Nat.lt_irrefl i), e1.out]
      by_cases c : rd l (i : Int) = 5
      · rw [if_pos c]
        obtain ⟨k, rfl⟩ : ∃ q, k = q + 1 := ⟨k - 1, by omega⟩
        rw [weak_terminators.l1, if_pos (by omega), if_pos (by omega), mix_rd, if_neg (Nat.lt_irrefl i), if_pos c, e1.out]
        have hrun0 : ∀ q : Nat, i ≤ q → q < i + 1 → rd l (q : Int) = 5 := fun q g1 g2 => by rw [show q = i by omega]; exact c
        -- how far the run goes
        have key : ∀ (tq K : Nat), i < tq → tq ≤ l.length → (∀ q : Nat, i ≤ q → q < tq → rd l (q : Int) = 5) → (tq = l.length ∨ rd l (tq : Int) ≠ 5) → 7 * (l.length - tq) + 2 + (tq - i) + 1 + 2 ≤ K → weak_terminators.j2 K (mix (t5 l) l i) (i : Int) (tq : Int) = some ((List.range l.length).map (t5 l)) := by
          intro tq K g1 g2 g3 g4 g5
          obtain ⟨K, rfl⟩ : ∃ q, K = q + 2 := ⟨K - 2, by omega⟩
          have next : ∀ k', 7 * (l.length - tq) + 2 ≤ k' → weak_terminators.l0 k' (mix (t5 l) l tq) (tq : Int) = some ((List.range l.length).map (t5 l)) := fun k' hk' => ih tq k' (by omega) g2 (by rcases g4 with g | g; exact .inr (.inl g); exact .inr (.inr (.inr g))) hk'
          have ew : Aside0 (wrap64 (wrap64 ((tq : Int) - 1) + 1) = (tq : Int)) := ⟨by rw [w64 (a := (tq : Int) - 1) (by omega) (by omega), w64 (by omega) (by omega)]; omega⟩
          have hrg : rg l (l.length - i) i = rg l (l.length - tq) tq := rg_run l tq g2 (tq - i) i (by omega) g3
          have j3 : ∀ b : Bool, b = (lf l i || rg l (l.length - i) i) → weak_terminators.j3 (K + 1) (mix (t5 l) l i) (i : Int) (tq : Int) b = some ((List.range l.length).map (t5 l)) := by
            intro b hb
            rw [weak_terminators.j3]
            cases b with
            | true =>
              rw [if_pos rfl]
              exact ter_l2 l hl i tq g2 g1 g3 hb.symm _ _ next (tq - i) i K rfl (Nat.le_refl _) (by omega) (by omega)
            | false =>
              rw [if_neg (by decide), ew.out, mix_run l i tq g2 g3 hb.symm tq (by omega) (Nat.le_refl _)]
              exact next K (by omega)
          -- what stands behind the run
          have right : ∀ b : Bool, b = lf l i → b = false → (if (tq : Int) < ((mix (t5 l) l i).length : Int) then (if (0 : Int) ≤ (tq : Int) then weak_terminators.j3 (K + 1) (mix (t5 l) l i) (i : Int) (tq : Int) (rd (mix (t5 l) l i) (tq : Int) == 3) else none) else weak_terminators.j3 (K + 1) (mix (t5 l) l i) (i : Int) (tq : Int) false) = some ((List.range l.length).map (t5 l)) := by
            intro b hb hbf
            rw [hbf] at hb
            rw [← hb, hrg, Bool.false_or] at j3
            by_cases c2 : tq = l.length
            · rw [if_neg (by omega)]
              exact j3 false (by rw [c2, rg_end])
            · have h5 : rd l (tq : Int) ≠ 5 := by rcases g4 with g | g; exact absurd g c2; exact g
              rw [if_pos (by omega), if_pos (by omega), mix_rd, if_neg (show ¬ tq < i by omega)]
              exact j3 _ (by rw [rg_at l tq (by omega) h5])
          rw [weak_terminators.j2]
          by_cases c0 : (i : Int) > 0
          · obtain ⟨p, rfl⟩ : ∃ p, i = p + 1 := ⟨i - 1, by omega⟩
            have ep : Aside0 (wrap64 (((p + 1 : Nat) : Int) - 1) = (p : Int)) := ⟨(w64 (by omega) (by omega)).trans (by omega)⟩
            have hp5 : rd l (p : Int) ≠ 5 := by
              rcases hs with g | g | g | g
              · omega
              · omega
              · rwa [Nat.add_sub_cancel] at g
              · exact absurd c g
            have hl3 : lf l (p + 1) = (rd l (p : Int) == 3) := by rw [lf, if_neg hp5]
            have ht5 : t5 l p = rd l (p : Int) := by unfold t5; rw [if_neg (fun h => hp5 h.1)]
            rw [if_pos c0, ep.out, if_pos (by omega), if_pos (by omega), mix_rd, if_pos (Nat.lt_succ_self p), ht5]
            by_cases c3 : rd l (p : Int) = 3
            · rw [if_pos c3]
              exact j3 true (by rw [hl3, c3]; rfl)
            · rw [if_neg c3]
              exact right (lf l (p + 1)) rfl (by rw [hl3, beq_eq_false_iff_ne.2 c3])
          · rw [if_neg c0]
            have e0 : i = 0 := by omega
            exact right (lf l i) rfl (by rw [e0]; rfl)
        -- the run's own length lowers the rounds: told for each end
        have run : ∀ (e m K : Nat), l.length - m = e → i < m → m ≤ l.length → (∀ q : Nat, i ≤ q → q < m → rd l (q : Int) = 5) → 7 * (l.length - m) + 2 + (m - i) + 4 ≤ K → weak_terminators.l1 K (mix (t5 l) l i) (i : Int) (m : Int) = some ((List.range l.length).map (t5 l)) := by
          intro e
          induction e with
          | zero =>
            intro m K h1 h2 h3 h4 h5
            obtain ⟨K, rfl⟩ : ∃ q, K = q + 1 := ⟨K - 1, by omega⟩
            rw [weak_terminators.l1, if_neg (by omega)]
            exact key m K h2 h3 h4 (.inl (by omega)) (by omega)
          | succ e ihe =>
            intro m K h1 h2 h3 h4 h5
            obtain ⟨K, rfl⟩ : ∃ q, K = q + 1 := ⟨K - 1, by omega⟩
            have em : Aside0 (wrap64 ((m : Int) + 1) = ((m + 1 : Nat) : Int)) := ⟨(w64 (by omega) (by omega)).trans (by omega)⟩
            rw [weak_terminators.l1, if_pos (by omega), if_pos (by omega), mix_rd, if_neg (show ¬ m < i by omega), em.out]
            by_cases c2 : rd l (m : Int) = 5
            · rw [if_pos c2]
              refine ihe (m + 1) K (by omega) (by omega) (by omega) (fun q g1 g2 => ?_) (by omega)
              by_cases eq : q = m
              · rw [eq]; exact c2
              · exact h4 q g1 (by omega)
            · rw [if_neg c2]
              exact key m K h2 h3 h4 (.inr c2) (by omega)
        exact run (l.length - (i + 1)) (i + 1) k rfl (by omega) (by omega) hrun0 (by omega)
      · rw [if_neg c, mix_keep (t5 l) l i (by omega) (by unfold t5; rw [if_neg (fun h => c h.1)])]
        exact ih (i + 1) k (by omega) (by omega) (.inr (.inr (.inl (by rw [Nat.add_sub_cancel]; exact c)))) (by omega)
theorem ter_f (l : List Int) (hl : l.length ≤ 1000000) (a : Int) : weak_terminators.f (8 * l.length + 8) l a = some ((List.range l.length).map (t5 l)) := by
  unfold weak_terminators.f
  have := ter_l0 l hl l.length 0 (8 * l.length + 8) (by omega) (by omega) (.inl rfl) (by omega)
  rwa [mix_0] at this
/-- Rule j, place by place. -/
def rN (j : Nat) (a : Int) (l : List Int) : Nat → Int := match j with
  | 0 => m1 l a
  | 1 => b1 2 6 l a
  | 2 => r3 l
  | 3 => s4 l
  | 4 => t5 l
  | 5 => o6 l
  | _ => b1 0 0 l a
def RN (j : Nat) (a : Int) (l : List Int) : List Int := (List.range l.length).map (rN j a l)
theorem RN_len (j : Nat) (a : Int) (l : List Int) : (RN j a l).length = l.length := by simp [RN]
theorem rd_RN (j : Nat) (a : Int) (l : List Int) (i : Nat) (h : i < l.length) : rd (RN j a l) (i : Int) = rN j a l i := rdm _ _ _ h
theorem ruleL_eq (j : Nat) (hj : j < 7) (a : Int) (l : List Int) (hl : l.length ≤ 1000000) : ruleL j a l = some (RN j a l) := by
  match j, hj with
  | 0, _ =>
    have := marks_eq l a l.length 0 (by omega)
    rw [mix_0] at this
    exact congrArg some this
  | 1, _ =>
    have := behind_eq 2 6 l a l.length 0 (by omega)
    rw [mix_0] at this
    exact congrArg some this
  | 2, _ =>
    have := right_eq l l.length 0 (by omega)
    rw [mix_0] at this
    exact congrArg some this
  | 3, _ => exact sep_f l hl a
  | 4, _ => exact ter_f l hl a
  | 5, _ =>
    have := others_eq l l.length 0 (by omega)
    rw [mix_0] at this
    exact congrArg some this
  | 6, _ =>
    have := behind_eq 0 0 l a l.length 0 (by omega)
    rw [mix_0] at this
    exact congrArg some this
end Go.Proofs.Ytdhknnaholaohaa.Pure
