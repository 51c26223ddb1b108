/- The pure side of the law UtfBack. -/
import Derived.Test.YtijikaihmaganaaP17
import Derived.Test.YtijikaihmaganaaPureRef
namespace Go.Proofs.Ytijikaihmaganaa.Pure
open Go.RowKit Go.Proofs.Ytijikaihmaganaa.P Go.Proofs.YtijikaihmaganaaW.PrintWords Go.Proofs.YtijikaihmaganaaW.PrintLast
set_option linter.unusedVariables false
set_option linter.unusedSimpArgs false
theorem encL_ok : ∀ (l P : List Int) (d : Nat), (encL l).2 = 0 → (encL l).1.length + 1 ≤ d → scanN (P ++ (encL l).1) d P.length = (l, 0, false)
  | [], P, d, _, hd => by
    obtain ⟨d, rfl⟩ : ∃ q, d = q + 1 := ⟨d - 1, by omega⟩
    rw [scanN, if_neg (by simp [encL])]
  | c :: r, P, d, h, hd => by
    rw [encL] at h hd ⊢
    by_cases hs : scalB c = true
    case neg => rw [if_neg hs] at h; exact absurd h (by decide)
    rw [if_pos hs] at h hd ⊢
    by_cases he : (encL r).2 = 0
    case neg => rw [if_neg he] at h; exact absurd h (by decide)
    rw [if_pos he] at h hd ⊢
    simp only [List.length_append] at hd
    have h1 : 1 ≤ (bytesF c).length := by
      unfold bytesF
      repeat' split
      all_goals simp
    obtain ⟨d, rfl⟩ : ∃ q, d = q + 1 := ⟨d - 1, by omega⟩
    have hn := bytes_next c hs (encL r).1
    have ih := encL_ok r (P ++ bytesF c) d he (by omega)
    rw [scanN, if_pos (by simp only [List.length_append]; omega)]
    simp only [List.drop_left, hn]
    rw [if_pos trivial, Int.toNat_natCast]
    rw [List.length_append, List.append_assoc] at ih
    rw [ih]
    simp
theorem encL_byte : ∀ l : List Int, (encL l).1.all byteB = true
  | [] => rfl
  | c :: r => by
    have ih := encL_byte r
    rw [encL]
    by_cases hs : scalB c = true
    · rw [if_pos hs]
      have h := (scalB_iff c).1 hs
      split
      · rw [List.all_append, bytes_byte c h.1 h.2.1, ih]; rfl
      · rfl
    · rw [if_neg hs]; rfl
theorem encL_len : ∀ l : List Int, (encL l).1.length ≤ 4 * l.length
  | [] => by simp [encL]
  | c :: r => by
    have ih := encL_len r
    have := bytesF_len c
    rw [encL]
    repeat' split
    all_goals simp
    omega
theorem dec_enc (b : List Int) (hb : b.all byteB = true) : ∀ (d i : Nat), i ≤ b.length → b.length + 1 ≤ d + i → (scanN b d i).2.2 ≠ true → encL (scanN b d i).1 = (b.drop i, 0)
  | 0, i, hi, hd, _ => absurd hd (by omega)
  | d + 1, i, hi, hd, h => by
    rw [scanN] at h ⊢
    by_cases c1 : i < b.length
    · rw [if_pos c1] at h ⊢
      by_cases c2 : (nextL (b.drop i)).2.2 = 0
      · rw [if_pos c2] at h ⊢
        obtain ⟨n, c, h1, h2, h3, h4, h5, h6, h7, h8⟩ := next_bytes (b.drop i) (all_drop hb i) c2
        rw [h1] at h ⊢
        simp only [Int.toNat_natCast] at h ⊢
        rw [List.length_drop] at h7
        by_cases c3 : (scanN b d (i + n)).2.2 = true
        · rw [if_pos c3] at h; exact absurd c3 h
        · rw [if_neg c3]
          have ih := dec_enc b hb d (i + n) (by omega) (by omega) c3
          simp only [encL]
          rw [if_pos h2, ih, if_pos rfl, ← h3]
          simp only []
          rw [← List.drop_drop, List.take_append_drop]
      · rw [if_neg c2] at h; exact absurd rfl h
    · rw [if_neg c1, List.drop_eq_nil_of_le (by omega)]
      rfl
theorem back_j1 (k : Nat) (b : List Int) (hb : b.all byteB = true) (hl : b.length ≤ 400) : frisketlaw01_UtfBack.j1 (k + 1) b = some true := by
  have hlen := dec_len b (b.length + 1) 0
  rw [frisketlaw01_UtfBack.j1, decode_f b hb (by omega), wrong_f b hb (by omega), alive_f]
  simp only [Option.bind_some]
  have he := encode_f (decA (scanN b (b.length + 1) 0)).1 (by omega)
  rw [he]
  have key := dec_enc b hb (b.length + 1) 0 (by omega) (by omega)
  unfold decA at *
  by_cases h : (scanN b (b.length + 1) 0).2.2 = true
  · simp [h]
  · have k2 := key h
    have hf : (scanN b (b.length + 1) 0).2.2 = false := by simpa using h
    simp [hf, k2]
theorem UtfBack : ∀ (l0 : List Int) (l1 : List Int), l0.length * 8 ≤ 140737488351232 → l0.length ≤ maxLen → (∀ e ∈ l0, (Lit.int .i64 e).wf = true) → l1.length * 1 ≤ 140737488351232 → l1.length ≤ maxLen → (∀ e ∈ l1, (Lit.int .u8 e).wf = true) → ∃ k, frisketlaw01_UtfBack.f k l0 l1 = some true := by
  intro l b _ _ _ _ _ hw
  have hb := byte_of hw
  have ht : frisketlaw01_UtfBack.j0 1000 l b true = some true := by
    rw [show (1000 : Nat) = 999 + 1 from rfl, frisketlaw01_UtfBack.j0, if_pos rfl, alive_f]; rfl
  refine ⟨1000, ?_⟩
  unfold frisketlaw01_UtfBack.f
  by_cases g : (l.length : Int) > 400
  · rw [if_pos g]; exact ht
  rw [if_neg g]
  by_cases g2 : (b.length : Int) > 400
  · rw [decide_eq_true g2]; exact ht
  rw [decide_eq_false g2, show (1000 : Nat) = 998 + 1 + 1 from rfl, frisketlaw01_UtfBack.j0, if_neg (by decide), encode_f l (by omega), Option.bind_some]
  have hj := back_j1 998 b hb (by omega)
  by_cases he : (encL l).2 = 0
  · have h1 := encL_ok l [] ((encL l).1.length + 1) he (Nat.le_refl _)
    have h2 := decode_f (encL l).1 (encL_byte l) (by have := encL_len l; omega)
    simp only [List.nil_append, List.length_nil] at h1
    rw [h1] at h2
    rw [if_pos he, h2, Option.bind_some]
    unfold decA
    rw [if_neg (show ¬ (false = true) by decide)]
    simp only []
    rw [if_pos trivial, ints_eq l (by omega) (998 + 1) (by omega), Option.bind_some, if_pos rfl]
    exact hj
  · rw [if_neg he]
    exact hj
end Go.Proofs.Ytijikaihmaganaa.Pure
