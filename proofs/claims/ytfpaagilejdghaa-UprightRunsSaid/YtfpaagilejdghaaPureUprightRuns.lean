/- The pure side of the law UprightRuns: at every list of ways its Lean function answers true. -/
import Derived.Test.YtfpaagilejdghaaP14
import Derived.Test.YtfpaagilejdghaaOp
namespace Go.Proofs.Ytfpaagilejdghaa.Pure
open Go.RowKit Go.Proofs.Ytfpaagilejdghaa.P Go.Proofs.YtfpaagilejdghaaW.PrintWords Go.Proofs.YtfpaagilejdghaaW.PrintLast

set_option linter.unusedVariables false
theorem aliveRuns : frisketlaw15_alive.f 20 = some true := by decide +kernel
theorem aliveRunsUp (k : Nat) : frisketlaw15_alive.f (20 + k) = some true := by
  induction k with
  | zero => exact aliveRuns
  | succ k ih => exact frisketlaw15_alive.mono _ _ ih
theorem w64 {a : Int} (h : -9223372036854775808 ≤ a) (h' : a ≤ 9223372036854775807) : wrap64 a = a := by unfold wrap64; omega

def LastNe (o : List S37) (w : Int) : Prop := ∀ e, o.getLast? = some e → e.f2 ≠ w
inductive Chain : List S37 → Int → Prop
  | nil : Chain [] 0
  | snoc {o : List S37} {a b w : Int} : Chain o a → a < b → LastNe o w → Chain (o ++ [⟨a, b, w⟩]) b

theorem rd_snoc_last (o : List S37) (e : S37) (i : Int) (h : i = o.length) : rd_T37 (o ++ [e]) i = e := by
  subst h
  simp [rd_T37, List.getD_eq_getElem?_getD]
theorem rd_snoc_old (o : List S37) (e : S37) (i : Int) (h0 : 0 ≤ i) (h : i < o.length) : rd_T37 (o ++ [e]) i = rd_T37 o i := by
  have : i.toNat < o.length := by omega
  simp [rd_T37, List.getD_eq_getElem?_getD, List.getElem?_append_left this]
theorem last_rd (o : List S37) (h : 0 < o.length) : o.getLast? = some (rd_T37 o ((o.length : Int) - 1)) := by
  have e : ((o.length : Int) - 1).toNat = o.length - 1 := by omega
  rw [List.getLast?_eq_getElem?]
  simp only [rd_T37, e, List.getD_eq_getElem?_getD]
  rw [List.getElem?_eq_getElem (by omega)]
  rfl
theorem chain_at {r : List S37} {n : Int} (h : Chain r n) : (r = [] → n = 0) ∧ (0 < r.length → (rd_T37 r ((r.length : Int) - 1)).f1 = n) ∧
    ∀ j : Int, 0 ≤ j → j < r.length → (rd_T37 r j).f0 = (if j = 0 then 0 else (rd_T37 r (j - 1)).f1) ∧ (rd_T37 r j).f0 < (rd_T37 r j).f1 ∧ (0 < j → (rd_T37 r j).f2 ≠ (rd_T37 r (j - 1)).f2) := by
  induction h with
  | nil => exact ⟨fun _ => rfl, fun h => absurd h (by simp), fun j h0 h1 => absurd h1 (by simp; omega)⟩
  | @snoc o a b w hc hab hl ih =>
    obtain ⟨ih1, ih2, ih3⟩ := ih
    have hz : ((o ++ [(⟨a, b, w⟩ : S37)]).length : Int) = o.length + 1 := by simp
    refine ⟨fun h => by simp at h, fun _ => ?_, fun j h0 h1 => ?_⟩
    · rw [rd_snoc_last _ _ _ (by omega)]
    · rw [hz] at h1
      by_cases hj : j = o.length
      · rw [rd_snoc_last _ _ _ hj]
        by_cases hz0 : o.length = 0
        · have : o = [] := List.eq_nil_of_length_eq_zero hz0
          refine ⟨?_, hab, fun hp => by omega⟩
          rw [if_pos (by omega)]
          exact ih1 this
        · rw [if_neg (by omega), rd_snoc_old _ _ _ (by omega) (by omega)]
          have e : j - 1 = (o.length : Int) - 1 := by omega
          refine ⟨?_, hab, fun _ => ?_⟩
          · rw [e]; exact (ih2 (by omega)).symm
          · have := hl _ (last_rd o (by omega))
            rw [e]; exact fun h => this h.symm
      · have hjl : j < o.length := by omega
        rw [rd_snoc_old _ _ _ h0 hjl]
        by_cases hz0 : j = 0
        · obtain ⟨h1, h2, h3⟩ := ih3 j h0 hjl
          rw [if_pos hz0] at h1 ⊢
          exact ⟨h1, h2, fun hp => by omega⟩
        · rw [rd_snoc_old _ _ _ (by omega) (by omega)]
          exact ih3 j h0 hjl

theorem sim (x : List Int) (hx : x.length ≤ 200) (d : Nat) : ∀ (k i : Nat) (oA oB : List S37) (f : Nat), i ≤ x.length → x.length - i = d → d < k → f ≤ i → oA.length ≤ f → Chain oA f →
    ((f = i ∧ oB = oA ∧ (i < x.length → LastNe oA (rd x i))) ∨ (f < i ∧ i < x.length ∧ oB = oA ++ [⟨f, i, rd x i⟩] ∧ LastNe oA (rd x i))) →
    ∃ r, upright_Runs.l0 k x oA f x x.length i = some r ∧ frisketref15_Runs.l0 k x oB i = some r ∧ Chain r x.length ∧ r.length ≤ 200 := by
  induction d with
  | zero =>
    intro k i oA oB f hi hd hk hf ho hc hinv
    obtain ⟨k, rfl⟩ : ∃ m, k = m + 1 := ⟨k - 1, by omega⟩
    have hi' : i = x.length := by omega
    rcases hinv with ⟨rfl, rfl, _⟩ | ⟨_, h, _⟩
    · refine ⟨oB, ?_, ?_, by rw [← hi']; exact hc, by omega⟩
      · simp only [upright_Runs.l0]; rw [if_neg (by omega)]
      · simp only [frisketref15_Runs.l0]; rw [if_neg (by omega)]
    · omega
  | succ d ih =>
    intro k i oA oB f hi hd hk hf ho hc hinv
    obtain ⟨k, rfl⟩ : ∃ m, k = m + 1 := ⟨k - 1, by omega⟩
    have hlt : i < x.length := by omega
    have ew : wrap64 ((i : Int) + 1) = ((i + 1 : Nat) : Int) := by rw [w64 (by omega) (by omega)]; omega
    -- what the second one's list is behind this step
    have hB : ∃ oB', frisketref15_Runs.l0 (k + 1) x oB i = frisketref15_Runs.l0 k x oB' ((i + 1 : Nat) : Int) ∧ oB' = oA ++ [⟨f, ((i + 1 : Nat) : Int), rd x i⟩] := by
      rcases hinv with ⟨rfl, rfl, hl⟩ | ⟨h1, h2, rfl, hl⟩
      · refine ⟨_, ?_, rfl⟩
        simp only [frisketref15_Runs.l0, ew]
        rw [if_pos (by omega)]
        by_cases hz : 0 < oB.length
        · have e : wrap64 ((oB.length : Int) - 1) = (oB.length : Int) - 1 := w64 (by omega) (by omega)
          rw [if_pos (by omega)]
          simp only [e]
          rw [if_pos (by omega), if_pos (by omega), if_pos (by omega), if_neg (hl hlt _ (last_rd oB hz)), if_pos (by omega)]
        · rw [if_neg (by omega), if_pos (by omega), if_pos (by omega)]
      · refine ⟨_, ?_, rfl⟩
        simp only [frisketref15_Runs.l0, ew]
        have hz : ((oA ++ [(⟨f, i, rd x i⟩ : S37)]).length : Int) = oA.length + 1 := by simp
        have e : wrap64 (((oA ++ [(⟨f, i, rd x i⟩ : S37)]).length : Int) - 1) = oA.length := by rw [w64 (by omega) (by omega)]; omega
        rw [if_pos (by omega), if_pos (by omega)]
        simp only [e]
        rw [if_pos (by omega), if_pos (by omega), if_pos (by omega), rd_snoc_last _ _ _ rfl, if_pos rfl]
        simp
    obtain ⟨oB', hB1, hB2⟩ := hB
    have hl : LastNe oA (rd x i) := by
      rcases hinv with ⟨_, _, hl⟩ | ⟨_, _, _, hl⟩
      · exact hl hlt
      · exact hl
    rw [hB1]
    have hlong : oA.length < 5864062014805 := by omega
    have hchain : Chain (oA ++ [⟨f, ((i + 1 : Nat) : Int), rd x i⟩]) ((i + 1 : Nat) : Int) := .snoc hc (by omega) hl
    by_cases hend : i + 1 = x.length
    · obtain ⟨r, h1, h2, h3⟩ := ih k (i + 1) (oA ++ [⟨f, ((i + 1 : Nat) : Int), rd x i⟩]) oB' (i + 1) (by omega) (by omega) (by omega) (by omega) (by simp; omega) hchain (.inl ⟨rfl, hB2, fun h => by omega⟩)
      refine ⟨r, ?_, h2, h3⟩
      simp only [upright_Runs.l0, ew]
      rw [if_pos (by omega), if_pos (by omega), if_pos (by omega), if_pos (by omega), if_pos hlong]
      exact h1
    · by_cases hsame : rd x ((i + 1 : Nat) : Int) = rd x i
      · obtain ⟨r, h1, h2, h3⟩ := ih k (i + 1) oA oB' f (by omega) (by omega) (by omega) (by omega) ho hc (.inr ⟨by omega, by omega, by rw [hB2, hsame], by rw [hsame]; exact hl⟩)
        refine ⟨r, ?_, h2, h3⟩
        simp only [upright_Runs.l0, ew]
        rw [if_pos (by omega), if_pos (by omega), if_pos (by omega), if_neg (by omega), if_pos (by omega), if_pos (by omega), if_pos hsame]
        exact h1
      · obtain ⟨r, h1, h2, h3⟩ := ih k (i + 1) (oA ++ [⟨f, ((i + 1 : Nat) : Int), rd x i⟩]) oB' (i + 1) (by omega) (by omega) (by omega) (by omega) (by simp; omega) hchain
          (.inl ⟨rfl, hB2, fun _ e he => by simp at he; subst he; exact fun h => hsame h.symm⟩)
        refine ⟨r, ?_, h2, h3⟩
        simp only [upright_Runs.l0, ew]
        rw [if_pos (by omega), if_pos (by omega), if_pos (by omega), if_neg (by omega), if_pos (by omega), if_pos (by omega), if_neg hsame, if_pos hlong]
        exact h1

theorem law_loop (x : List Int) (hx : x.length ≤ 200) (r : List S37) (hr : r.length ≤ 200) (hc : Chain r x.length) (d : Nat) : ∀ (k : Nat) (j : Nat) (at_ : Int), j ≤ r.length → r.length - j = d → d + 20 < k →
    at_ = (if (j : Int) = 0 then 0 else (rd_T37 r ((j : Int) - 1)).f1) → frisketlaw15_UprightRuns.l0 k x r r at_ j = some true := by
  obtain ⟨c1, c2, c3⟩ := chain_at hc
  induction d with
  | zero =>
    intro k j at_ hj hd hk ha
    obtain ⟨k, rfl⟩ : ∃ m, k = 20 + m + 1 := ⟨k - 21, by omega⟩
    simp only [frisketlaw15_UprightRuns.l0]
    rw [if_neg (by omega), aliveRunsUp]
    simp only [Option.bind_some, if_true]
    have : at_ = (x.length : Int) := by
      by_cases hz : r.length = 0
      · rw [ha, if_pos (by omega)]
        exact (c1 (List.eq_nil_of_length_eq_zero hz)).symm
      · rw [ha, if_neg (by omega)]
        have e : (j : Int) - 1 = (r.length : Int) - 1 := by omega
        rw [e]; exact c2 (by omega)
    rw [this]; simp
  | succ d ih =>
    intro k j at_ hj hd hk ha
    obtain ⟨k, rfl⟩ : ∃ m, k = m + 1 := ⟨k - 1, by omega⟩
    have ew' : wrap64 ((j : Int) - 1) = (j : Int) - 1 := w64 (by omega) (by omega)
    have ew : wrap64 ((j : Int) + 1) = ((j + 1 : Nat) : Int) := by rw [w64 (by omega) (by omega)]; omega
    simp only [frisketlaw15_UprightRuns.l0, ew, ew', beq_self_eq_true, Bool.not_true, Bool.or_self]
    clear ew ew'
    obtain ⟨h1, h2, h3⟩ := c3 j (by omega) (by omega)
    rw [if_pos (by omega), if_pos (by omega), if_pos (by omega), if_neg Bool.false_ne_true, if_pos (h1.trans ha.symm), if_neg (by rw [ha, ← h1]; omega)]
    have hn := ih k (j + 1) (rd_T37 r j).f1 (by omega) (by omega) (by omega) (by rw [if_neg (by omega)]; congr 2; omega)
    by_cases hz : (j : Int) > 0
    · rw [if_pos hz, if_pos (by omega), if_pos (by omega), if_neg (h3 hz)]
      exact hn
    · rw [if_neg hz]; exact hn

theorem UprightRuns : ∀ (l0 : List Int), l0.length * 8 ≤ 140737488351232 → l0.length ≤ maxLen → (∀ e ∈ l0, (Lit.int .i64 e).wf = true) → ∃ k, frisketlaw15_UprightRuns.f k l0 = some true := by
  intro x _ _ _
  by_cases hx : (x.length : Int) > 200
  · refine ⟨20, ?_⟩
    simp only [frisketlaw15_UprightRuns.f]
    rw [if_pos hx, aliveRuns]; rfl
  · obtain ⟨K, hK⟩ : ∃ K : Nat, 300 ≤ K := ⟨300, Nat.le_refl _⟩
    obtain ⟨r, h1, h2, h3, h4⟩ := sim x (by omega) x.length K 0 [] [] 0 (by omega) (by omega) (by omega) (by omega) (by simp) .nil (.inl ⟨rfl, rfl, fun _ e he => by simp at he⟩)
    have hl := law_loop x (by omega) r h4 h3 r.length K 0 0 (by omega) (by omega) (by omega) rfl
    refine ⟨K, ?_⟩
    simp only [frisketlaw15_UprightRuns.f, upright_Runs.f, frisketref15_Runs.f]
    have h1' : upright_Runs.l0 K x [] 0 x x.length 0 = some r := h1
    have h2' : frisketref15_Runs.l0 K x [] 0 = some r := h2
    rw [if_neg hx, h1', h2']
    simp only [Option.bind_some, if_true]
    exact hl

end Go.Proofs.Ytfpaagilejdghaa.Pure
