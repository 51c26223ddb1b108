/- The pure side of the law UtfJoins. -/
import Derived.Test.YtijikaihmaganaaP19
import Derived.Test.YtijikaihmaganaaPureRef
namespace Go.Proofs.Ytijikaihmaganaa.Pure
open Go.RowKit Go.Proofs.Ytijikaihmaganaa.P Go.Proofs.YtijikaihmaganaaW.PrintWords Go.Proofs.YtijikaihmaganaaW.PrintLast
set_option linter.unusedVariables false
set_option linter.unusedSimpArgs false
theorem next_app (x y : List Int) (hx : x.all byteB = true) (h : (nextL x).2.2 = 0) : nextL (x ++ y) = nextL x := by
  obtain ⟨n, c, h1, h2, h3, h4, h5, h6, h7, h8⟩ := next_bytes x hx h
  have e : x ++ y = bytesF c ++ (x.drop n ++ y) := by rw [← h3, ← List.append_assoc, List.take_append_drop]
  rw [h1, e, bytes_next c h2, h4]
theorem scanN_fuel (l : List Int) : ∀ (d d' i : Nat), l.length + 1 ≤ d + i → l.length + 1 ≤ d' + i → i ≤ l.length → scanN l d i = scanN l d' i
  | 0, d', i, h, _, hi => absurd h (by omega)
  | d + 1, 0, i, _, h, hi => absurd h (by omega)
  | d + 1, d' + 1, i, h, h', hi => by
    rw [scanN, scanN]
    by_cases c1 : i < l.length
    · rw [if_pos c1, if_pos c1]
      by_cases c2 : (nextL (l.drop i)).2.2 = 0
      · have hn := next_ok c2
        rw [List.length_drop] at hn
        obtain ⟨n, hnn⟩ : ∃ n : Nat, (nextL (l.drop i)).2.1 = (n : Int) := ⟨(nextL (l.drop i)).2.1.toNat, by omega⟩
        rw [hnn] at hn
        rw [if_pos c2, if_pos c2, hnn, Int.toNat_natCast, scanN_fuel l d d' (i + n) (by omega) (by omega) (by omega)]
      · rw [if_neg c2, if_neg c2]
    · rw [if_neg c1, if_neg c1]
theorem scanN_app (a b : List Int) (ha : a.all byteB = true) : ∀ (d i d' D : Nat), i ≤ a.length → a.length + 1 ≤ d + i → (scanN a d i).2.2 ≠ true → (a ++ b).length + 1 ≤ d' + i → (a ++ b).length + 1 ≤ D + a.length → scanN (a ++ b) d' i = scanW (scanN a d i).1 (scanN (a ++ b) D a.length)
  | 0, i, d', D, hi, hd, _, _, _ => absurd hd (by omega)
  | d + 1, i, 0, D, hi, hd, _, h, _ => absurd h (by rw [List.length_append]; omega)
  | d + 1, i, d' + 1, D, hi, hd, h, h', hD => by
    rw [scanN] at h ⊢
    by_cases c1 : i < a.length
    · rw [if_pos c1] at h
      by_cases c2 : (nextL (a.drop i)).2.2 = 0
      · rw [if_pos c2] at h
        have hn := next_ok c2
        rw [List.length_drop] at hn
        have happ : nextL ((a ++ b).drop i) = nextL (a.drop i) := by
          rw [List.drop_append_of_le_length (by omega)]
          exact next_app _ _ (all_drop ha i) c2
        obtain ⟨n, hnn⟩ : ∃ n : Nat, (nextL (a.drop i)).2.1 = (n : Int) := ⟨(nextL (a.drop i)).2.1.toNat, by omega⟩
        rw [hnn] at hn
        rw [hnn, Int.toNat_natCast] at h
        by_cases c3 : (scanN a d (i + n)).2.2 = true
        · rw [if_pos c3] at h; exact absurd c3 h
        · have ih := scanN_app a b ha d (i + n) d' D (by omega) (by omega) c3 (by omega) hD
          rw [if_pos (by rw [List.length_append]; omega), happ, if_pos c2, hnn, Int.toNat_natCast, ih, scanN, if_pos c1, if_pos c2, hnn, Int.toNat_natCast, if_neg c3]
          unfold scanW
          by_cases g : (scanN (a ++ b) D a.length).2.2 = true
          · rw [if_pos g, if_pos g, if_pos g]
          · rw [if_neg g, if_neg (show ¬ (false = true) by decide), if_neg g]; simp
      · rw [if_neg c2] at h; exact absurd rfl h
    · obtain rfl : i = a.length := by omega
      have e : (scanN a (d + 1) a.length).1 = [] := by rw [scanN, if_neg (by omega)]
      have f := scanN_fuel (a ++ b) (d' + 1) D a.length (by omega) (by omega) (by rw [List.length_append]; omega)
      rw [scanN] at f
      rw [f, e, scanW_nil]
def shiftR (k : Nat) (r : List Int × Int × Bool) : List Int × Int × Bool := if r.2.2 = true then (r.1, r.2.1 + (k : Int), true) else r
theorem scanN_shift (a b : List Int) : ∀ (d i : Nat), scanN (a ++ b) d (a.length + i) = shiftR a.length (scanN b d i)
  | 0, i => rfl
  | d + 1, i => by
    rw [scanN, scanN]
    have hdr : (a ++ b).drop (a.length + i) = b.drop i := by rw [← List.drop_drop, List.drop_left]
    rw [hdr]
    by_cases c1 : i < b.length
    · rw [if_pos (by rw [List.length_append]; omega), if_pos c1]
      by_cases c2 : (nextL (b.drop i)).2.2 = 0
      · rw [if_pos c2, if_pos c2, Nat.add_assoc, scanN_shift a b d (i + (nextL (b.drop i)).2.1.toNat)]
        unfold shiftR
        by_cases g : (scanN b d (i + (nextL (b.drop i)).2.1.toNat)).2.2 = true
        · simp [g]
        · simp [g]
      · rw [if_neg c2, if_neg c2]
        unfold shiftR
        rw [if_pos rfl]
        simp
        omega
    · rw [if_neg (by rw [List.length_append]; omega), if_neg c1]
      rfl
theorem scan_at (l : List Int) : ∀ d i, i ≤ l.length → l.length + 1 ≤ d + i → (0 ≤ (scanN l d i).2.1 ∧ (scanN l d i).2.1 ≤ (l.length : Int))
  | 0, i, hi, h => absurd h (by omega)
  | d + 1, i, hi, h => by
    rw [scanN]
    by_cases c1 : i < l.length
    · rw [if_pos c1]
      by_cases c2 : (nextL (l.drop i)).2.2 = 0
      · have hn := next_ok c2
        rw [List.length_drop] at hn
        have ih := scan_at l d (i + (nextL (l.drop i)).2.1.toNat) (by omega) (by omega)
        rw [if_pos c2]
        split
        · exact ih
        · exact ⟨Int.le_refl _, Int.natCast_nonneg _⟩
      · rw [if_neg c2]
        simp only []
        omega
    · rw [if_neg c1]
      exact ⟨Int.le_refl _, Int.natCast_nonneg _⟩
theorem UtfJoins : ∀ (l0 : List Int) (l1 : List Int), l0.length * 1 ≤ 140737488351232 → l0.length ≤ maxLen → (∀ e ∈ l0, (Lit.int .u8 e).wf = true) → l1.length * 1 ≤ 140737488351232 → l1.length ≤ maxLen → (∀ e ∈ l1, (Lit.int .u8 e).wf = true) → ∃ k, frisketlaw01_UtfJoins.f k l0 l1 = some true := by
  intro a b _ _ hwa _ _ hwb
  have ha := byte_of hwa
  have hb := byte_of hwb
  have ht : frisketlaw01_UtfJoins.j0 2000 a b true = some true := by
    rw [show (2000 : Nat) = 1999 + 1 from rfl, frisketlaw01_UtfJoins.j0, if_pos rfl, alive_f]; rfl
  refine ⟨2000, ?_⟩
  unfold frisketlaw01_UtfJoins.f
  by_cases g : (a.length : Int) > 400
  · rw [if_pos g]; exact ht
  rw [if_neg g]
  by_cases g2 : (b.length : Int) > 400
  · rw [decide_eq_true g2]; exact ht
  have hab : (a ++ b).all byteB = true := by rw [List.all_append, ha, hb]; rfl
  have lab : (a ++ b).length = a.length + b.length := List.length_append
  rw [decide_eq_false g2, show (2000 : Nat) = 1999 + 1 from rfl, frisketlaw01_UtfJoins.j0, if_neg (by decide), decode_f a ha (by omega), decode_f b hb (by omega)]
  simp only [Option.bind_some, List.length_nil, Nat.zero_add, List.nil_append]
  rw [if_pos (by omega), if_pos (by omega), decode_f (a ++ b) hab (by omega), alive_f, wrong_f b hb (by omega), wrong_f (a ++ b) hab (by omega)]
  simp only [Option.bind_some]
  have na := dec_len a (a.length + 1) 0
  have nb := dec_len b (b.length + 1) 0
  have hat := scan_at b (b.length + 1) 0 (by omega) (by omega)
  by_cases ea : (scanN a (a.length + 1) 0).2.2 = true
  · have e1 : decA (scanN a (a.length + 1) 0) = ([], 11) := by unfold decA; rw [if_pos ea]
    rw [e1, if_neg (by decide)]
  · have e1 : decA (scanN a (a.length + 1) 0) = ((scanN a (a.length + 1) 0).1, 0) := by unfold decA; rw [if_neg ea]
    have eab := scanN_app a b ha (a.length + 1) 0 ((a ++ b).length + 1) (b.length + 1) (by omega) (by omega) ea (by omega) (by omega)
    have esh : scanN (a ++ b) (b.length + 1) a.length = shiftR a.length (scanN b (b.length + 1) 0) := scanN_shift a b (b.length + 1) 0
    rw [esh] at eab
    rw [e1] at na ⊢
    rw [if_pos rfl, eab]
    simp only [] at na ⊢
    generalize (scanN a (a.length + 1) 0).1 = l at *
    generalize scanN b (b.length + 1) 0 = R at *
    by_cases eb : R.2.2 = true
    · have e2 : decA R = ([], 11) := by unfold decA; rw [if_pos eb]
      have hw : Aside0 (wrap64 ((a.length : Int) + R.2.1) = (a.length : Int) + R.2.1) := ⟨w64 (by omega) (by omega)⟩
      rw [e2, if_neg (by decide), hw.out]
      unfold decA scanW shiftR
      simp [eb]
      omega
    · have e2 : decA R = (R.1, 0) := by unfold decA; rw [if_neg eb]
      rw [e2] at nb ⊢
      rw [if_pos rfl]
      simp only [] at nb ⊢
      rw [if_pos (by omega), if_pos (by omega), if_pos trivial]
      have e3 : decA (scanW l (shiftR a.length R)) = (l ++ R.1, 0) := by unfold decA scanW shiftR; simp [eb]
      rw [e3, if_pos rfl]
      simp only []
      rw [ints_eq (l ++ R.1) (by rw [List.length_append]; omega) 1999 (by rw [List.length_append]; omega), Option.bind_some]
end Go.Proofs.Ytijikaihmaganaa.Pure
