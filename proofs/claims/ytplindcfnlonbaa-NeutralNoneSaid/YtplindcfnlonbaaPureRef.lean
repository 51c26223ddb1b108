/- The document's own Settle and Raise, and neutral.Raise. -/
import Derived.Test.YtplindcfnlonbaaP6
import Derived.Test.YtplindcfnlonbaaP14
import Derived.Test.YtplindcfnlonbaaP15
import Derived.Test.YtplindcfnlonbaaPureBase
namespace Go.Proofs.Ytplindcfnlonbaa.Pure
open Go.RowKit Go.Proofs.Ytplindcfnlonbaa.P Go.Proofs.YtplindcfnlonbaaW.PrintWords Go.Proofs.YtplindcfnlonbaaW.PrintLast Go.Proofs.YtplindcfnlonbaaW.PrintMore
set_option linter.unusedVariables false
set_option linter.unusedSimpArgs false
set_option linter.unusedSectionVars false

def w10 (x : Int) : Int := if x = 9 then 10 else x
theorem side_cases (c : Int) : sideF c = 0 ∨ sideF c = 1 ∨ sideF c = 9 := by
  rw [side_val]
  repeat' split
  all_goals simp
theorem ah_cases (l : List Int) (fi : Int) (hf : fi = 0 ∨ fi = 1) : ∀ i : Nat, ah l fi i = 0 ∨ ah l fi i = 1 ∨ ah l fi i = 9
  | 0 => by rw [ah]; omega
  | i + 1 => by
    rw [ah]
    split
    · exact ah_cases l fi hf i
    · exact side_cases _
theorem be_cases (l : List Int) (la : Int) (hf : la = 0 ∨ la = 1) : ∀ d i : Nat, be l la d i = 0 ∨ be l la d i = 1 ∨ be l la d i = 9
  | 0, i => by rw [be]; omega
  | d + 1, i => by
    rw [be]
    split
    · exact be_cases l la hf d (i + 1)
    · exact side_cases _
theorem mid_w (own a b : Int) (ha : a = 0 ∨ a = 1 ∨ a = 9) (hb : b = 0 ∨ b = 1 ∨ b = 9) : (if w10 a = w10 b then (if w10 a = 10 then some own else some (w10 a)) else some own) = some (mid own a b) := by
  rcases ha with rfl | rfl | rfl <;> rcases hb with rfl | rfl | rfl <;> simp [w10, mid]
theorem mid_cases (own a b : Int) (ho : own = 0 ∨ own = 1) (ha : a = 0 ∨ a = 1 ∨ a = 9) : mid own a b = 0 ∨ mid own a b = 1 := by
  unfold mid
  split <;> omega
theorem refside_w (c : Int) : frisketref12_side.f c = some (w10 (sideF c)) := refside_f c
section
variable (l : List Int) (hl : l.length ≤ 1000000) (own lv fi la : Int) (hfi : fi = 0 ∨ fi = 1) (hla : la = 0 ∨ la = 1)
include hl hfi hla
theorem at_j4 (m t : Nat) (hm : m ≤ l.length) (hm' : m = 0 ∨ neu (rd l ((m - 1 : Nat) : Int)) = false) (ht : t ≤ l.length) (ht' : t = l.length ∨ neu (rd l (t : Int)) = false) (k : Nat) :
    frisketref12_at.j4 (k + 2) l own ((m : Int) - 1) (t : Int) lv fi la = some (mid own (ah l fi m) (be l la (l.length - t) t)) := by
  have j5 : frisketref12_at.j5 (k + 1) l own (t : Int) (w10 (ah l fi m)) lv fi la = some (mid own (ah l fi m) (be l la (l.length - t) t)) := by
    rw [frisketref12_at.j5]
    by_cases c : t = l.length
    · rw [if_neg (by omega), ← mid_w own _ _ (ah_cases l fi hfi m) (be_cases l la hla _ _), c, be_end, show w10 la = la by unfold w10; rw [if_neg (by omega)]]
    · have hn : neu (rd l (t : Int)) = false := by rcases ht' with g | g; exact absurd g c; exact g
      rw [if_pos (by omega), if_pos (by omega), refside_w, Option.bind_some, be_at l la t (by omega) hn]
      exact mid_w own _ _ (ah_cases l fi hfi m) (side_cases _)
  rw [frisketref12_at.j4]
  cases m with
  | zero =>
    rw [if_neg (by omega)]
    rw [show w10 (ah l fi 0) = fi by unfold w10; rw [ah, if_neg (by omega)]] at j5
    exact j5
  | succ p =>
    have hp : neu (rd l (p : Int)) = false := by rcases hm' with g | g; cases g; rwa [Nat.add_sub_cancel] at g
    rw [show ((p + 1 : Nat) : Int) - 1 = (p : Int) by omega, if_pos (by omega), if_pos (by omega), if_pos (by omega), refside_w, Option.bind_some]
    rw [show ah l fi (p + 1) = sideF (rd l (p : Int)) by rw [ah, if_neg (by rw [hp]; decide)]] at j5 ⊢
    exact j5
theorem at_l1 (m : Nat) (hm : m ≤ l.length) (hm' : m = 0 ∨ neu (rd l ((m - 1 : Nat) : Int)) = false) : ∀ (d t k : Nat), t + d = l.length → d + 3 ≤ k → frisketref12_at.l1 k l own ((m : Int) - 1) (t : Int) lv fi la = some (mid own (ah l fi m) (be l la (l.length - t) t))
  | 0, t, k, ht, hk => by
    obtain ⟨k, rfl⟩ : ∃ q, k = q + 3 := ⟨k - 3, by omega⟩
    rw [frisketref12_at.l1, if_neg (by omega)]
    exact at_j4 l hl own lv fi la hfi hla m t hm hm' (by omega) (.inl (by omega)) k
  | d + 1, t, k, ht, hk => by
    obtain ⟨k, rfl⟩ : ∃ q, k = q + 3 := ⟨k - 3, by omega⟩
    have e1 : Aside0 (wrap64 ((t : Int) + 1) = ((t + 1 : Nat) : Int)) := ⟨(w64 (by omega) (by omega)).trans (by omega)⟩
    rw [frisketref12_at.l1, if_pos (by omega), if_pos (by omega), refneu_f, Option.bind_some]
    by_cases c : neu (rd l (t : Int)) = true
    · rw [if_pos c, e1.out, at_l1 m hm hm' d (t + 1) (k + 2) (by omega) (by omega)]
      rw [be_run l la (t + 1) (by omega) 1 t (by omega) (fun q h1 h2 => by rw [show q = t by omega]; exact c)]
    · rw [if_neg c]
      exact at_j4 l hl own lv fi la hfi hla m t hm hm' (by omega) (.inr (by simpa using c)) k
theorem at_l0 (i : Nat) (hi : i ≤ l.length) : ∀ (m k : Nat), m ≤ l.length → m + l.length + 6 ≤ k → frisketref12_at.l0 k l (i : Int) own ((m : Int) - 1) lv fi la = some (mid own (ah l fi m) (be l la (l.length - i) i))
  | 0, k, hm, hk => by
    obtain ⟨k, rfl⟩ : ∃ q, k = q + 2 := ⟨k - 2, by omega⟩
    rw [frisketref12_at.l0, if_neg (by omega), frisketref12_at.j2]
    exact at_l1 l hl own lv fi la hfi hla 0 (by omega) (.inl rfl) (l.length - i) i k (by omega) (by omega)
  | p + 1, k, hm, hk => by
    obtain ⟨k, rfl⟩ : ∃ q, k = q + 2 := ⟨k - 2, by omega⟩
    have e1 : Aside0 (wrap64 ((p : Int) - 1) = (p : Int) - 1) := ⟨w64 (by omega) (by omega)⟩
    have e2 : ((p + 1 : Nat) : Int) - 1 = (p : Int) := by omega
    have e3 := e2
    rw [e2, frisketref12_at.l0, if_pos (by omega), if_pos (by omega), if_pos (by omega), refneu_f, Option.bind_some]
    by_cases c : neu (rd l (p : Int)) = true
    · rw [if_pos c, e1.out, at_l0 i hi p (k + 1) (by omega) (by omega), ah, if_pos c]
    · rw [if_neg c, frisketref12_at.j2, ← e3]
      exact at_l1 l hl own lv fi la hfi hla (p + 1) (by omega) (.inr (by rw [Nat.add_sub_cancel]; simpa using c)) (l.length - i) i k (by omega) (by omega)
end
theorem at_f (l : List Int) (hl : l.length ≤ 1000000) (lv fi la : Int) (hfi : fi = 0 ∨ fi = 1) (hla : la = 0 ∨ la = 1) (i : Nat) (hi : i < l.length) (hn : neu (rd l (i : Int)) = true) (k : Nat) (hk : 2 * l.length + 10 ≤ k) : frisketref12_at.f k l lv fi la (i : Int) = some (sN l (ownF lv) fi la i) := by
  obtain ⟨k, rfl⟩ : ∃ q, k = q + 1 := ⟨k - 1, by omega⟩
  have go : ∀ own, frisketref12_at.j0 (k + 1) l (i : Int) own lv fi la = some (mid own (ah l fi i) (be l la (l.length - i) i)) := by
    intro own
    rw [frisketref12_at.j0]
    have := at_l0 l hl own lv fi la hfi hla i (by omega) (i + 1) k (by omega) (by omega)
    rw [show ((i + 1 : Nat) : Int) - 1 = (i : Int) by omega, ah, if_pos hn] at this
    exact this
  unfold frisketref12_at.f sN ownF
  rw [if_pos hn]
  by_cases c : Int.tmod lv 2 = 1
  · rw [if_pos c, if_pos c]; exact go 1
  · rw [if_neg c, if_neg c]; exact go 0
theorem refSettle_l0 (l : List Int) (hl : l.length ≤ 1000000) (lv fi la : Int) (hfi : fi = 0 ∨ fi = 1) (hla : la = 0 ∨ la = 1) : ∀ (d i k : Nat), i + d = l.length → 2 * l.length + 12 + d ≤ k → frisketref12_Settle.l0 k l ((List.range i).map (sN l (ownF lv) fi la)) (i : Int) lv fi la = some (SL (ownF lv) fi la l, 0)
  | 0, i, k, hi, hk => by
    obtain ⟨k, rfl⟩ : ∃ q, k = q + 1 := ⟨k - 1, by omega⟩
    rw [frisketref12_Settle.l0, if_neg (by omega)]
    obtain rfl : i = l.length := by omega
    rfl
  | d + 1, i, k, hi, hk => by
    obtain ⟨k, rfl⟩ : ∃ q, k = q + 1 := ⟨k - 1, by omega⟩
    have e1 : Aside0 (wrap64 ((i : Int) + 1) = ((i + 1 : Nat) : Int)) := ⟨(w64 (by omega) (by omega)).trans (by omega)⟩
    have hlen : ((List.range i).map (sN l (ownF lv) fi la)).length < 17592186044416 := by rw [List.length_map, List.length_range]; omega
    have ih := refSettle_l0 l hl lv fi la hfi hla d (i + 1) k (by omega) (by omega)
    rw [rm_succ] at ih
    rw [frisketref12_Settle.l0, if_pos (by omega), if_pos (by omega), refneu_f, Option.bind_some]
    by_cases c : neu (rd l (i : Int)) = true
    · rw [if_pos c, at_f l hl lv fi la hfi hla i (by omega) c k (by omega), Option.bind_some, if_pos hlen, e1.out]
      exact ih
    · rw [if_neg c, if_pos hlen, e1.out, ← sN_keep l (ownF lv) fi la i (by simpa using c)]
      exact ih
theorem refSettle_f (l : List Int) (hl : l.length ≤ 1000000) (lv fi la : Int) (h : OkS lv fi la) (k : Nat) (hk : 3 * l.length + 14 ≤ k) : frisketref12_Settle.f k l lv fi la = some (SL (ownF lv) fi la l, 0) := by
  obtain ⟨k, rfl⟩ : ∃ q, k = q + 1 := ⟨k - 1, by omega⟩
  obtain ⟨h1, h2, h3, h4⟩ := h
  have go : frisketref12_Settle.j0 (k + 1) l false lv fi la = some (SL (ownF lv) fi la l, 0) := by
    rw [frisketref12_Settle.j0, if_neg (by decide)]
    exact refSettle_l0 l hl lv fi la h3 h4 l.length 0 k (by omega) (by omega)
  unfold frisketref12_Settle.f
  rw [if_neg (by omega), if_neg (by omega)]
  rcases h3 with rfl | rfl
  · rw [if_pos rfl]
    rcases h4 with rfl | rfl
    · rw [if_pos rfl]; exact go
    · rw [if_neg (by decide)]; exact go
  · rw [if_neg (by decide), if_pos rfl]
    rcases h4 with rfl | rfl
    · rw [if_pos rfl]; exact go
    · rw [if_neg (by decide)]; exact go
theorem refSettle_no (l : List Int) (lv fi la : Int) (h : ¬ OkS lv fi la) (k : Nat) : frisketref12_Settle.f (k + 1) l lv fi la = some ([], 1) := by
  have go : frisketref12_Settle.j0 (k + 1) l true lv fi la = some ([], 1) := by rw [frisketref12_Settle.j0, if_pos rfl]
  unfold OkS at h
  unfold frisketref12_Settle.f
  by_cases c1 : lv < 0
  · rw [if_pos c1]; exact go
  · rw [if_neg c1]
    by_cases c2 : lv > 125
    · rw [if_pos c2]; exact go
    · rw [if_neg c2]
      by_cases c3 : fi = 0
      · rw [if_pos c3, if_neg (by omega), bne_iff_ne.2 (show la ≠ 1 by omega)]; exact go
      · rw [if_neg c3]
        by_cases c4 : fi = 1
        · rw [if_pos c4, if_neg (by omega), bne_iff_ne.2 (show la ≠ 1 by omega)]; exact go
        · rw [if_neg c4]; exact go
/-! Raise. -/
def rE (lv c : Int) : Int := if c = 1 then lv + (1 - Int.tmod lv 2) else if c = 0 then lv + Int.tmod lv 2 else if c = 3 ∨ c = 6 then lv + (2 - Int.tmod lv 2) else lv
def RL (lv : Int) (l : List Int) : List Int := (List.range l.length).map (fun i => rE lv (rd l ((i : Nat) : Int)))
theorem RL_len (lv : Int) (l : List Int) : (RL lv l).length = l.length := by simp [RL]
theorem rd_RL (lv : Int) (l : List Int) (i : Nat) (h : i < l.length) : rd (RL lv l) (i : Int) = rE lv (rd l (i : Int)) := rdm (fun i => rE lv (rd l ((i : Nat) : Int))) _ _ h
theorem tmod_01 (lv : Int) (h : 0 ≤ lv) : Int.tmod lv 2 = 0 ∨ Int.tmod lv 2 = 1 := by
  rw [Int.tmod_eq_emod_of_nonneg h]; omega
theorem raise_l0 (l : List Int) (hl : l.length < 17592186044416) (lv : Int) (h0 : 0 ≤ lv) (h1 : lv ≤ 125) : ∀ (d i k : Nat), i + d = l.length → 2 + d ≤ k → neutral_Raise.l0 k lv (Int.tmod lv 2) ((List.range i).map (fun i => rE lv (rd l ((i : Nat) : Int)))) l (l.length : Int) (i : Int) = some (RL lv l, 0)
  | 0, i, k, hi, hk => by
    obtain ⟨k, rfl⟩ : ∃ q, k = q + 1 := ⟨k - 1, by omega⟩
    rw [neutral_Raise.l0, if_neg (by omega)]
    obtain rfl : i = l.length := by omega
    rfl
  | d + 1, i, k, hi, hk => by
    obtain ⟨k, rfl⟩ : ∃ q, k = q + 1 := ⟨k - 1, by omega⟩
    have e1 : Aside0 (wrap64 ((i : Int) + 1) = ((i + 1 : Nat) : Int)) := ⟨(w64 (by omega) (by omega)).trans (by omega)⟩
    have hlen : ((List.range i).map (fun i => rE lv (rd l ((i : Nat) : Int)))).length < 17592186044416 := by rw [List.length_map, List.length_range]; omega
    have ih := raise_l0 l hl lv h0 h1 d (i + 1) k (by omega) (by omega)
    rw [rm_succ] at ih
    have ho := tmod_01 lv h0
    have a1 : Aside0 (wrap64 (lv + wrap64 (1 - Int.tmod lv 2)) = lv + (1 - Int.tmod lv 2)) := ⟨by rw [w64 (a := 1 - Int.tmod lv 2) (by omega) (by omega), w64 (by omega) (by omega)]⟩
    have a2 : Aside0 (wrap64 (lv + Int.tmod lv 2) = lv + Int.tmod lv 2) := ⟨w64 (by omega) (by omega)⟩
    have a3 : Aside0 (wrap64 (lv + wrap64 (2 - Int.tmod lv 2)) = lv + (2 - Int.tmod lv 2)) := ⟨by rw [w64 (a := 2 - Int.tmod lv 2) (by omega) (by omega), w64 (by omega) (by omega)]⟩
    rw [neutral_Raise.l0, if_pos (by omega), if_pos (by omega), if_pos (by omega), a1.out, a2.out, a3.out, e1.out]
    by_cases c1 : rd l (i : Int) = 1
    · rw [if_pos c1, if_pos hlen]
      rwa [show rE lv (rd l (i : Int)) = lv + (1 - Int.tmod lv 2) by unfold rE; rw [if_pos c1]] at ih
    · rw [if_neg c1]
      by_cases c0 : rd l (i : Int) = 0
      · rw [if_pos c0, if_pos hlen]
        rwa [show rE lv (rd l (i : Int)) = lv + Int.tmod lv 2 by unfold rE; rw [if_neg c1, if_pos c0]] at ih
      · rw [if_neg c0]
        by_cases c3 : rd l (i : Int) = 3
        · rw [if_pos c3, if_pos hlen]
          rwa [show rE lv (rd l (i : Int)) = lv + (2 - Int.tmod lv 2) by unfold rE; rw [if_neg c1, if_neg c0, if_pos (.inl c3)]] at ih
        · rw [if_neg c3]
          by_cases c6 : rd l (i : Int) = 6
          · rw [if_pos c6, if_pos hlen]
            rwa [show rE lv (rd l (i : Int)) = lv + (2 - Int.tmod lv 2) by unfold rE; rw [if_neg c1, if_neg c0, if_pos (.inr c6)]] at ih
          · rw [if_neg c6, if_pos hlen]
            rwa [show rE lv (rd l (i : Int)) = lv by unfold rE; rw [if_neg c1, if_neg c0, if_neg (by omega)]] at ih
theorem raise_f (l : List Int) (hl : l.length < 17592186044416) (lv : Int) (h0 : 0 ≤ lv) (h1 : lv ≤ 125) (k : Nat) (hk : l.length + 4 ≤ k) : neutral_Raise.f k l lv = some (RL lv l, 0) := by
  obtain ⟨k, rfl⟩ : ∃ q, k = q + 1 := ⟨k - 1, by omega⟩
  unfold neutral_Raise.f
  rw [if_neg (by omega), decide_eq_false (show ¬ lv > 125 by omega), neutral_Raise.j0, if_neg (by decide)]
  exact raise_l0 l hl lv h0 h1 l.length 0 k (by omega) (by omega)
theorem raise_no (l : List Int) (lv : Int) (h : ¬ (0 ≤ lv ∧ lv ≤ 125)) (k : Nat) : neutral_Raise.f (k + 1) l lv = some ([], 1) := by
  have go : neutral_Raise.j0 (k + 1) l lv true = some ([], 1) := by rw [neutral_Raise.j0, if_pos rfl]
  unfold neutral_Raise.f
  by_cases c : lv < 0
  · rw [if_pos c]; exact go
  · rw [if_neg c, decide_eq_true (show lv > 125 by omega)]; exact go
theorem refRaise_l0 (l : List Int) (hl : l.length ≤ 1000000) (lv : Int) (h0 : 0 ≤ lv) (h1 : lv ≤ 125) : ∀ (d i k : Nat), i + d = l.length → 5 + 4 * d ≤ k → frisketref12_Raise.l0 k l lv ((List.range i).map (fun i => rE lv (rd l ((i : Nat) : Int)))) (i : Int) = some (RL lv l, 0)
  | 0, i, k, hi, hk => by
    obtain ⟨k, rfl⟩ : ∃ q, k = q + 1 := ⟨k - 1, by omega⟩
    rw [frisketref12_Raise.l0, if_neg (by omega)]
    obtain rfl : i = l.length := by omega
    rfl
  | d + 1, i, k, hi, hk => by
    obtain ⟨k, rfl⟩ : ∃ q, k = q + 4 := ⟨k - 4, by omega⟩
    have e1 : Aside0 (wrap64 ((i : Int) + 1) = ((i + 1 : Nat) : Int)) := ⟨(w64 (by omega) (by omega)).trans (by omega)⟩
    have hlen : ((List.range i).map (fun i => rE lv (rd l ((i : Nat) : Int)))).length < 17592186044416 := by rw [List.length_map, List.length_range]; omega
    have ih0 := fun k' (hk' : 5 + 4 * d ≤ k') => refRaise_l0 l hl lv h0 h1 d (i + 1) k' (by omega) hk'
    rw [rm_succ] at ih0
    have a1 : Aside0 (wrap64 (lv + 1) = lv + 1) := ⟨w64 (by omega) (by omega)⟩
    have a2 : Aside0 (wrap64 (lv + 2) = lv + 2) := ⟨w64 (by omega) (by omega)⟩
    have i0 : (0 : Int) ≤ (i : Int) := by omega
    have il : (i : Int) < (l.length : Int) := by omega
    have j2 : ∀ b : Bool, b = (rd l (i : Int) == 3 || rd l (i : Int) == 6) → frisketref12_Raise.j2 (k + 3) l lv ((List.range i).map (fun i => rE lv (rd l ((i : Nat) : Int)))) (i : Int) lv b = some (RL lv l, 0) := by
      intro b hb
      rw [frisketref12_Raise.j2]
      rcases tmod_01 lv h0 with ho | ho
      · rw [if_pos ho, if_pos i0, if_pos il, frisketref12_Raise.j3]
        by_cases c1 : rd l (i : Int) = 1
        · rw [if_pos (beq_iff_eq.2 c1), if_pos hlen, e1.out, a1.out]
          have ih := ih0 (k + 1) (by omega)
          rwa [show rE lv (rd l (i : Int)) = lv + 1 by unfold rE; rw [if_pos c1, ho]; omega] at ih
        · rw [if_neg (by rw [beq_eq_false_iff_ne.2 c1]; decide), if_pos ho, frisketref12_Raise.j4]
          cases b with
          | true =>
            have c36 : rd l (i : Int) = 3 ∨ rd l (i : Int) = 6 := by simpa using hb.symm
            rw [if_pos rfl, if_pos hlen, e1.out, a2.out]
            have ih := ih0 k (by omega)
            rwa [show rE lv (rd l (i : Int)) = lv + 2 by unfold rE; rw [if_neg c1, if_neg (by omega), if_pos c36, ho]; omega] at ih
          | false =>
            have c36 : ¬ (rd l (i : Int) = 3 ∨ rd l (i : Int) = 6) := by simpa using hb.symm
            rw [if_neg (by decide), if_neg (by omega), if_pos hlen, e1.out]
            have ih := ih0 k (by omega)
            rwa [show rE lv (rd l (i : Int)) = lv by unfold rE; rw [if_neg c1, if_neg c36, ho]; split <;> omega] at ih
      · rw [if_neg (by omega), frisketref12_Raise.j3, if_neg (by decide), if_neg (by omega), frisketref12_Raise.j4, if_neg (by decide), if_pos ho, if_pos i0, if_pos il, e1.out, a1.out]
        have ih := ih0 k (by omega)
        by_cases c0 : rd l (i : Int) = 0
        · rw [if_pos c0, if_pos hlen]
          rwa [show rE lv (rd l (i : Int)) = lv + 1 by unfold rE; rw [if_neg (by omega), if_pos c0, ho]] at ih
        · rw [if_neg c0]
          cases b with
          | true =>
            have c36 : rd l (i : Int) = 3 ∨ rd l (i : Int) = 6 := by simpa using hb.symm
            rw [if_pos rfl, if_pos hlen]
            rwa [show rE lv (rd l (i : Int)) = lv + 1 by unfold rE; rw [if_neg (by omega), if_neg c0, if_pos c36, ho]; omega] at ih
          | false =>
            have c36 : ¬ (rd l (i : Int) = 3 ∨ rd l (i : Int) = 6) := by simpa using hb.symm
            rw [if_neg (by decide), if_pos hlen]
            rwa [show rE lv (rd l (i : Int)) = lv by unfold rE; rw [if_neg c0, if_neg c36, ho]; split <;> omega] at ih
    rw [frisketref12_Raise.l0, if_pos il, if_pos i0]
    by_cases c3 : rd l (i : Int) = 3
    · rw [if_pos c3]; exact j2 true (by rw [c3]; rfl)
    · rw [if_neg c3]; exact j2 _ (by rw [beq_eq_false_iff_ne.2 c3, Bool.false_or])
theorem refRaise_f (l : List Int) (hl : l.length ≤ 1000000) (lv : Int) (h0 : 0 ≤ lv) (h1 : lv ≤ 125) (k : Nat) (hk : 4 * l.length + 8 ≤ k) : frisketref12_Raise.f k l lv = some (RL lv l, 0) := by
  obtain ⟨k, rfl⟩ : ∃ q, k = q + 1 := ⟨k - 1, by omega⟩
  unfold frisketref12_Raise.f
  rw [if_neg (by omega), decide_eq_false (show ¬ lv > 125 by omega), frisketref12_Raise.j0, if_neg (by decide)]
  exact refRaise_l0 l hl lv h0 h1 l.length 0 k (by omega) (by omega)
theorem refRaise_no (l : List Int) (lv : Int) (h : ¬ (0 ≤ lv ∧ lv ≤ 125)) (k : Nat) : frisketref12_Raise.f (k + 1) l lv = some ([], 1) := by
  have go : frisketref12_Raise.j0 (k + 1) l lv true = some ([], 1) := by rw [frisketref12_Raise.j0, if_pos rfl]
  unfold frisketref12_Raise.f
  by_cases c : lv < 0
  · rw [if_pos c]; exact go
  · rw [if_neg c, decide_eq_true (show lv > 125 by omega)]; exact go
end Go.Proofs.Ytplindcfnlonbaa.Pure
