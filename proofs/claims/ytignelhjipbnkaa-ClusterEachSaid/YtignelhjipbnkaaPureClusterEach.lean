/- The pure side of the law ClusterEach: at every joins its Lean function answers true. -/
import Derived.Test.YtignelhjipbnkaaP27
import Derived.Test.YtignelhjipbnkaaPureOf
namespace Go.Proofs.Ytignelhjipbnkaa.Pure
open Go.RowKit Go.Proofs.Ytignelhjipbnkaa.P Go.Proofs.YtignelhjipbnkaaW.PrintWords Go.Proofs.YtignelhjipbnkaaW.PrintLast Go.Proofs.YtignelhjipbnkaaW.PrintMore
set_option linter.unusedVariables false
set_option linter.unusedSimpArgs false

theorem rd_cons_0 (x : Int) (q : List Int) : rd (x :: q) ((0 : Nat) : Int) = x := rfl
theorem rd_cons_s (x : Int) (q : List Int) (j : Nat) : rd (x :: q) ((j + 1 : Nat) : Int) = rd q (j : Int) := by
  unfold rd
  rw [Int.toNat_natCast, Int.toNat_natCast, List.getD_eq_getElem?_getD, List.getD_eq_getElem?_getD, List.getElem?_cons_succ]
/-- Place k of q, or its end. -/
def nx (q : List Int) (e : Int) (k : Nat) : Int := if k < q.length then rd q (k : Int) else e
theorem nx_cons_s (x : Int) (q : List Int) (e : Int) (k : Nat) : nx (x :: q) e (k + 1) = nx q e k := by
  unfold nx
  rw [rd_cons_s, List.length_cons]
  by_cases h : k < q.length
  · rw [if_pos h, if_pos (by omega)]
  · rw [if_neg h, if_neg (by omega)]
theorem stL_is (l : List Int) : ∀ (d i : Nat), (∀ m : Nat, i ≤ m → (m : Int) < nx (stL l d i) ((i + d : Nat) : Int) 0 → brB l m = false) ∧ (i : Int) ≤ nx (stL l d i) ((i + d : Nat) : Int) 0 ∧ nx (stL l d i) ((i + d : Nat) : Int) 0 ≤ ((i + d : Nat) : Int) ∧
    ∀ k : Nat, k < (stL l d i).length → (i : Int) ≤ rd (stL l d i) (k : Int) ∧ rd (stL l d i) (k : Int) < nx (stL l d i) ((i + d : Nat) : Int) (k + 1) ∧ nx (stL l d i) ((i + d : Nat) : Int) (k + 1) ≤ ((i + d : Nat) : Int) ∧ (∀ m : Nat, rd (stL l d i) (k : Int) < (m : Int) → (m : Int) < nx (stL l d i) ((i + d : Nat) : Int) (k + 1) → brB l m = false)
  | 0, i => by
    simp only [stL, nx]
    refine ⟨fun m h1 h2 => ?_, ?_, ?_, fun k hk => ?_⟩
    · simp at h2; omega
    · simp
    · simp
    · simp at hk
  | d + 1, i => by
    obtain ⟨a1, a2, a3, a4⟩ := stL_is l d (i + 1)
    have ee : i + 1 + d = i + (d + 1) := by omega
    rw [ee] at a1 a2 a3 a4
    simp only [stL]
    cases hb : brB l i with
    | true =>
      rw [if_pos rfl]
      have h0 : nx ((i : Int) :: stL l d (i + 1)) ((i + (d + 1) : Nat) : Int) 0 = (i : Int) := rfl
      refine ⟨fun m h1 h2 => ?_, by rw [h0]; omega, by rw [h0]; omega, fun k hk => ?_⟩
      · rw [h0] at h2; omega
      · cases k with
        | zero =>
          rw [nx_cons_s, rd_cons_0]
          exact ⟨by omega, by omega, a3, fun m h1 h2 => a1 m (by omega) h2⟩
        | succ k =>
          rw [nx_cons_s, rd_cons_s]
          obtain ⟨b1, b2, b3, b4⟩ := a4 k (by simpa using hk)
          exact ⟨by omega, b2, b3, b4⟩
    | false =>
      rw [if_neg (by decide)]
      refine ⟨fun m h1 h2 => ?_, by omega, a3, fun k hk => ?_⟩
      · by_cases e : m = i
        · rw [e]; exact hb
        · exact a1 m (by omega) h2
      · obtain ⟨b1, b2, b3, b4⟩ := a4 k hk
        exact ⟨by omega, b2, b3, b4⟩
theorem stL_asc (l : List Int) (d i : Nat) : Asc (stL l d i) := by
  obtain ⟨_, _, _, h⟩ := stL_is l d i
  have step : ∀ k : Nat, k + 1 < (stL l d i).length → rd (stL l d i) (k : Int) < rd (stL l d i) ((k + 1 : Nat) : Int) := by
    intro k hk
    obtain ⟨_, b2, _⟩ := h k (by omega)
    rw [nx, if_pos hk] at b2
    exact b2
  intro a b hab hb
  induction b with
  | zero => omega
  | succ b ih =>
    by_cases e : a = b
    · subst e; exact step a hb
    · have h1 := ih (by omega) (by omega)
      have h2 := step b hb
      omega
def stopB (a : Int) : Bool := endB a
/-- A scalar within a cluster that stops: the cluster is CR LF. -/
theorem no_stop (l : List Int) (s e : Nat) (he : e ≤ l.length) (hno : ∀ m : Nat, s < m → m < e → brB l m = false) (i : Nat) (hs : s ≤ i) (hi : i < e) (hst : endB (rd l (i : Int)) = true) (hlong : s + 1 < e) :
    e = s + 2 ∧ rd l (s : Int) = 1 ∧ rd l ((s + 1 : Nat) : Int) = 2 := by
  have key : ∀ m : Nat, s < m → m < e → (endB (rd l ((m - 1 : Nat) : Int)) || endB (rd l (m : Int))) = true → rd l ((m - 1 : Nat) : Int) = 1 ∧ rd l (m : Int) = 2 := by
    intro m h1 h2 h3
    have h := hno m h1 h2
    obtain ⟨m, rfl⟩ : ∃ q, m = q + 1 := ⟨m - 1, by omega⟩
    rw [Nat.add_sub_cancel] at h3 ⊢
    unfold brB brkS at h
    rw [sS_last] at h
    by_cases c : rd l (m : Int) = 1 ∧ rd l ((m + 1 : Nat) : Int) = 2
    · exact c
    · rw [if_neg c, if_pos h3] at h
      cases h
  have e21 : endB 2 = true := by decide
  have e1 : endB 1 = true := by decide
  -- the first pair
  have first : rd l (s : Int) = 1 ∧ rd l ((s + 1 : Nat) : Int) = 2 := by
    by_cases c : i = s
    · have := key (s + 1) (by omega) hlong (by rw [Nat.add_sub_cancel, ← c, hst]; rfl)
      rwa [Nat.add_sub_cancel] at this
    · have h1 := key i (by omega) hi (by rw [hst, Bool.or_true])
      by_cases c2 : i = s + 1
      · subst c2; rwa [Nat.add_sub_cancel] at h1
      · have h2 := key (i - 1) (by omega) (by omega) (by rw [h1.1, e1, Bool.or_true])
        rw [h1.1] at h2
        have := h2.2
        omega
  refine ⟨?_, first⟩
  by_cases c : e = s + 2
  · exact c
  · have h3 := key (s + 2) (by omega) (by omega) (by rw [show s + 2 - 1 = s + 1 by omega, first.2, e21]; rfl)
    rw [show s + 2 - 1 = s + 1 by omega, first.2] at h3
    have := h3.1
    omega
theorem each_l1 (l : List Int) (hl : l.length ≤ 120) (x : List Int) (hx : x.length ≤ l.length) (hA : Asc x) (k0 : Nat) (hk0 : k0 < x.length) (s e : Nat) (hs : rd x (k0 : Int) = (s : Int)) (he : e ≤ l.length) (hse : s < e) (hn : (e : Int) = nx x (l.length : Int) k0.succ) (crlf : Bool)
    (hcr : crlf = decide (e = s + 2 ∧ rd l (s : Int) = 1 ∧ rd l ((s + 1 : Nat) : Int) = 2)) (hno : ∀ m : Nat, s < m → m < e → brB l m = false) (B : Nat) (H : ∀ k, B ≤ k → frisketlaw05_ClusterEach.l0 k l x ((k0 + 1 : Nat) : Int) = some true) (d : Nat) :
    ∀ (i k : Nat), e - i ≤ d → s ≤ i → B + d + 200 ≤ k → frisketlaw05_ClusterEach.l1 k l x (k0 : Int) (e : Int) crlf i = some true := by
  have E0 : Aside0 (wrap64 ((k0 : Int) + 1) = ((k0 + 1 : Nat) : Int)) := ⟨(w64 (by omega) (by omega)).trans (by omega)⟩
  have E1 : Aside0 (wrap64 ((s : Int) + 1) = ((s + 1 : Nat) : Int)) := ⟨(w64 (by omega) (by omega)).trans (by omega)⟩
  have hof : ∀ (i k : Nat), s ≤ i → i < e → 200 ≤ k → cluster_Of.f k x (i : Int) = some (k0 : Int) := by
    intro i k h1 h2 h3
    obtain ⟨r, g1, g2⟩ := of_f x (by omega) hA (i : Int) (by omega) k (by omega)
    rw [g1]
    congr 1
    refine isOf_uniq g2 ⟨by omega, by omega, fun j hj hjr => ?_, fun j hj hjr => ?_⟩
    · by_cases c : j = k0
      · rw [c, hs]; omega
      · have := hA j k0 (by omega) hk0; omega
    · have hlt : k0 + 1 < x.length := by omega
      rw [nx, if_pos (show k0.succ < x.length from hlt)] at hn
      by_cases c : j = k0 + 1
      · rw [c]; have : rd x ((k0 + 1 : Nat) : Int) = (e : Int) := hn.symm; omega
      · have := hA (k0 + 1) j (by omega) hj
        have h5 : rd x ((k0 + 1 : Nat) : Int) = (e : Int) := hn.symm
        omega
  clear hn
  induction d with
  | zero =>
    intro i k h1 h2 h3
    obtain ⟨k, rfl⟩ : ∃ q, k = q + 1 := ⟨k - 1, by omega⟩
    rw [frisketlaw05_ClusterEach.l1, if_neg (by omega), E0.out]
    exact H k (by omega)
  | succ d ih =>
    intro i k h1 h2 h3
    obtain ⟨k, rfl⟩ : ∃ q, k = q + 1 := ⟨k - 1, by omega⟩
    by_cases c : i < e
    · have e2 : Aside0 (wrap64 ((i : Int) + 1) = ((i + 1 : Nat) : Int)) := ⟨(w64 (by omega) (by omega)).trans (by omega)⟩
      have hr := ih (i + 1) k (by omega) (by omega) (by omega)
      have ho := hof i k h2 c (by omega)
      have stop : endB (rd l (i : Int)) = true → ((e : Int) > ((s + 1 : Nat) : Int)) → crlf = true := by
        intro g1 g2
        rw [hcr]
        exact decide_eq_true (no_stop l s e he hno i h2 c g1 (by omega))
      rw [frisketlaw05_ClusterEach.l1, if_pos (show (i : Int) < (e : Int) by omega), if_pos (by omega), if_pos (by omega), ho, e2.out, hr]
      rw [hs, E1.out]
      simp only [Option.bind_some, if_true]
      have body : endB (rd l (i : Int)) = true → (if (0 : Int) ≤ (k0 : Int) then if (k0 : Int) < (x.length : Int) then if (e : Int) > ((s + 1 : Nat) : Int) then if crlf = true then some true else some false else some true else none else none) = some true := by
        intro g
        rw [if_pos (by omega), if_pos (by omega)]
        by_cases g2 : (e : Int) > ((s + 1 : Nat) : Int)
        · rw [if_pos g2, if_pos (stop g g2)]
        · rw [if_neg g2]
      by_cases c1 : rd l (i : Int) = 1
      · rw [if_pos c1]; exact body (by rw [c1]; rfl)
      · rw [if_neg c1]
        by_cases c2 : rd l (i : Int) = 2
        · rw [if_pos c2]; exact body (by rw [c2]; rfl)
        · rw [if_neg c2]
          by_cases c3 : rd l (i : Int) = 3
          · rw [if_pos c3]; exact body (by rw [c3]; rfl)
          · rw [if_neg c3]
    · rw [frisketlaw05_ClusterEach.l1, if_neg (by omega), E0.out]
      exact H k (by omega)
theorem each_l0 (l : List Int) (hl : l.length ≤ 120) (hl0 : 0 < l.length) (d : Nat) : ∀ (j k : Nat), (stP l).length - j = d → j ≤ (stP l).length → 500 + d * 400 ≤ k → frisketlaw05_ClusterEach.l0 k l (stP l) j = some true := by
  have hs : (stP l).length ≤ l.length := stL_len l l.length 0
  have hA : Asc (stP l) := stL_asc l l.length 0
  obtain ⟨_, _, _, hI⟩ := stL_is l l.length 0
  rw [Nat.zero_add] at hI
  change ∀ k : Nat, k < (stP l).length → ((0 : Nat) : Int) ≤ rd (stP l) (k : Int) ∧ rd (stP l) (k : Int) < nx (stP l) (l.length : Int) (k + 1) ∧ nx (stP l) (l.length : Int) (k + 1) ≤ (l.length : Int) ∧ (∀ m : Nat, rd (stP l) (k : Int) < (m : Int) → (m : Int) < nx (stP l) (l.length : Int) (k + 1) → brB l m = false) at hI
  induction d with
  | zero =>
    intro j k hd hj hk
    obtain ⟨k, rfl⟩ : ∃ q, k = q + 1 := ⟨k - 1, by omega⟩
    rw [frisketlaw05_ClusterEach.l0, if_neg (by omega), alive05 k (by omega)]
    rfl
  | succ d ih =>
    intro j k hd hj hk
    obtain ⟨k, rfl⟩ : ∃ q, k = q + 3 := ⟨k - 3, by omega⟩
    have hj' : j < (stP l).length := by omega
    obtain ⟨b1, b2, b3, b4⟩ := hI j hj'
    obtain ⟨s, hsv⟩ : ∃ s : Nat, rd (stP l) (j : Int) = (s : Int) := ⟨(rd (stP l) (j : Int)).toNat, by omega⟩
    obtain ⟨e, hev⟩ : ∃ e : Nat, nx (stP l) (l.length : Int) (j + 1) = (e : Int) := ⟨(nx (stP l) (l.length : Int) (j + 1)).toNat, by omega⟩
    rw [hsv, hev] at b2
    rw [hev] at b3
    have b4' : ∀ m : Nat, s < m → m < e → brB l m = false := fun m g1 g2 => b4 m (by rw [hsv]; omega) (by rw [hev]; omega)
    have next : ∀ k', 500 + d * 400 ≤ k' → frisketlaw05_ClusterEach.l0 k' l (stP l) ((j + 1 : Nat) : Int) = some true := fun k' hk' => ih (j + 1) k' (by omega) (by omega) hk'
    have e2 : Aside0 (wrap64 ((j : Int) + 1) = ((j + 1 : Nat) : Int)) := ⟨(w64 (by omega) (by omega)).trans (by omega)⟩
    have E3 : Aside0 (wrap64 ((s : Int) + 2) = ((s + 2 : Nat) : Int)) := ⟨(w64 (by omega) (by omega)).trans (by omega)⟩
    have E4 : Aside0 (wrap64 ((s : Int) + 1) = ((s + 1 : Nat) : Int)) := ⟨(w64 (by omega) (by omega)).trans (by omega)⟩
    clear b4 hI
    have j3 : ∀ c : Bool, c = decide (e = s + 2 ∧ rd l (s : Int) = 1 ∧ rd l ((s + 1 : Nat) : Int) = 2) → frisketlaw05_ClusterEach.j3 (k + 1) l (stP l) (j : Int) (e : Int) c = some true := by
      intro c hc
      rw [frisketlaw05_ClusterEach.j3, if_pos (by omega), if_pos (by omega), hsv]
      exact each_l1 l hl (stP l) hs hA j hj' s e hsv (by omega) (by omega) hev.symm c hc b4' (500 + d * 400) next 120 s k (by omega) (by omega) (by omega)
    have j2 : frisketlaw05_ClusterEach.j2 (k + 2) l (stP l) (j : Int) (e : Int) = some true := by
      rw [frisketlaw05_ClusterEach.j2, if_pos (by omega), if_pos (by omega), hsv, if_neg (by omega), E3.out, E4.out]
      by_cases c1 : e = s + 2
      · rw [if_pos (by omega), if_pos (by omega), if_pos (by omega)]
        by_cases c2 : rd l (s : Int) = 1
        · rw [if_pos c2, if_pos (by omega), if_pos (by omega)]
          refine j3 _ ?_
          rw [Bool.eq_iff_iff]
          simp [c1, c2]
        · rw [if_neg c2]
          exact j3 false (decide_eq_false (fun h => c2 h.2.1)).symm
      · rw [if_neg (by omega)]
        exact j3 false (decide_eq_false (fun h => c1 h.1)).symm
    rw [frisketlaw05_ClusterEach.l0, if_pos (by omega), e2.out]
    unfold nx at hev
    by_cases c : j + 1 < (stP l).length
    · rw [if_pos c] at hev
      rw [if_pos (by omega), if_pos (by omega), hev]
      exact j2
    · rw [if_neg c] at hev
      rw [if_neg (by omega), hev]
      exact j2
theorem ClusterEach : ∀ (l0 : List Int), l0.length * 8 ≤ 140737488351232 → l0.length ≤ maxLen → (∀ e ∈ l0, (Lit.int .i64 e).wf = true) → ∃ k, frisketlaw05_ClusterEach.f k l0 = some true := by
  intro l _ _ _
  refine ⟨60001, ?_⟩
  unfold frisketlaw05_ClusterEach.f
  by_cases h : (l.length : Int) > 120
  · rw [if_pos h, alive05 60001 (by decide)]
    rfl
  · have hl : l.length ≤ 120 := by omega
    have hs : (stP l).length ≤ l.length := stL_len l l.length 0
    rw [if_neg h, starts_f l (by omega), Option.bind_some]
    by_cases h0 : (l.length : Int) = 0
    · rw [if_pos h0, alive05 60001 (by decide), Option.bind_some, if_pos rfl, show ((stP l).length : Int) = 0 by omega]
      rfl
    · obtain ⟨n, hn⟩ : ∃ n, l.length = n + 1 := ⟨l.length - 1, by omega⟩
      have e1 : stP l = 0 :: stL l n 1 := by
        unfold stP
        rw [hn]
        simp only [stL, brB_0, if_true]
        rfl
      have e2 : rd (stP l) 0 = 0 := by rw [e1]; rfl
      have e3 : 0 < (stP l).length := by rw [e1]; simp
      rw [if_neg h0, if_neg (by omega), if_pos (by omega), if_pos e2, decide_eq_false (by omega), frisketlaw05_ClusterEach.j0, if_neg (by decide)]
      exact each_l0 l hl (by omega) (stP l).length 0 60000 (by omega) (by omega) (by omega)
end Go.Proofs.Ytignelhjipbnkaa.Pure
