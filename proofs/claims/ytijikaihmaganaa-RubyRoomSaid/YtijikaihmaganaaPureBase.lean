/- Scalars' bytes and back: the document's answers are the program's. -/
import Derived.Test.YtijikaihmaganaaP10
import Derived.Test.YtijikaihmaganaaP12
import Derived.Test.YtijikaihmaganaaP9
import Derived.Test.YtijikaihmaganaaP13
import Derived.Test.YtijikaihmaganaaP14
import Derived.Test.YtijikaihmaganaaP15
import Derived.Test.YtijikaihmaganaaP6
import Derived.Test.YtijikaihmaganaaP7
import Derived.Test.YtijikaihmaganaaHScan
import Derived.Test.YtijikaihmaganaaHAlive
namespace Go.Proofs.Ytijikaihmaganaa.Pure
open Go.RowKit Go.Proofs.Ytijikaihmaganaa.P Go.Proofs.YtijikaihmaganaaW.PrintWords Go.Proofs.YtijikaihmaganaaW.PrintLast Go.Proofs.YtijikaihmaganaaW.PrintMore
set_option linter.unusedVariables false
set_option linter.unusedSimpArgs false
theorem w64 {a : Int} (h : -9223372036854775808 ≤ a) (h' : a ≤ 9223372036854775807) : wrap64 a = a := by unfold wrap64; omega
theorem ints_l0 (a : List Int) (ha : a.length ≤ 1099511627776) (d : Nat) : ∀ (j k : Nat), a.length - j = d → d + 1 ≤ k → frisketref01_Ints.l0 k a a j = some true := by
  induction d with
  | zero =>
    intro j k hd hk
    obtain ⟨k, rfl⟩ : ∃ q, k = q + 1 := ⟨k - 1, by omega⟩
    simp only [frisketref01_Ints.l0]
    rw [if_neg (by omega)]
  | succ d ih =>
    intro j k hd hk
    obtain ⟨k, rfl⟩ : ∃ q, k = q + 1 := ⟨k - 1, by omega⟩
    have e2 : wrap64 ((j : Int) + 1) = ((j + 1 : Nat) : Int) := (w64 (by omega) (by omega)).trans (by omega)
    simp only [frisketref01_Ints.l0]
    rw [if_pos (by omega), if_pos (by omega), if_pos (by omega), if_pos trivial, e2]
    exact ih (j + 1) k (by omega) (by omega)
theorem ints_eq (a : List Int) (ha : a.length ≤ 1099511627776) (k : Nat) (hk : a.length + 1 ≤ k) : frisketref01_Ints.f k a a = some true := by
  unfold frisketref01_Ints.f
  rw [if_pos rfl]
  exact ints_l0 a ha a.length 0 k (by omega) hk
/-! ## Bytes -/
theorem refBytes (c : Int) (h0 : 0 ≤ c) (h1 : c ≤ 1114111) : frisketref01_Bytes.f c = some (bytesF c) := by
  unfold frisketref01_Bytes.f bytesF
  have t1 : Int.tdiv c 64 = c / 64 := Int.tdiv_eq_ediv_of_nonneg h0
  have t2 : Int.tdiv c 4096 = c / 4096 := Int.tdiv_eq_ediv_of_nonneg h0
  have t3 : Int.tdiv c 262144 = c / 262144 := Int.tdiv_eq_ediv_of_nonneg h0
  have t4 : Int.tmod c 64 = c % 64 := Int.tmod_eq_emod_of_nonneg h0
  have t5 : Int.tmod (c / 64) 64 = c / 64 % 64 := Int.tmod_eq_emod_of_nonneg (by omega)
  have t6 : Int.tmod (c / 4096) 64 = c / 4096 % 64 := Int.tmod_eq_emod_of_nonneg (by omega)
  have v1 := w64 (a := c / 64) (by omega) (by omega)
  have v2 := w64 (a := c / 4096) (by omega) (by omega)
  have v3 := w64 (a := c / 262144) (by omega) (by omega)
  have q1 := w64 (a := 192 + c / 64) (by omega) (by omega)
  have q2 := w64 (a := 224 + c / 4096) (by omega) (by omega)
  have q3 := w64 (a := 240 + c / 262144) (by omega) (by omega)
  have q4 := w64 (a := 128 + c % 64) (by omega) (by omega)
  have q5 := w64 (a := 128 + c / 64 % 64) (by omega) (by omega)
  have q6 := w64 (a := 128 + c / 4096 % 64) (by omega) (by omega)
  rw [t1, t2, t3, t4, v1, v2, v3, t5, t6, q1, q2, q3, q4, q5, q6]
  clear t1 t2 t3 t4 t5 t6 v1 v2 v3 q1 q2 q3 q4 q5 q6
  by_cases c1 : c < 128
  · rw [if_pos c1, if_pos c1, show c % 256 = c by omega]
  · rw [if_neg c1, if_neg c1]
    by_cases c2 : c < 2048
    · rw [if_pos c2, if_pos c2, show (192 + c / 64) % 256 = 192 + c / 64 by omega, show (128 + c % 64) % 256 = 128 + c % 64 by omega]
    · rw [if_neg c2, if_neg c2]
      by_cases c3 : c < 65536
      · rw [if_pos c3, if_pos c3, show (224 + c / 4096) % 256 = 224 + c / 4096 by omega, show (128 + c % 64) % 256 = 128 + c % 64 by omega, show (128 + c / 64 % 64) % 256 = 128 + c / 64 % 64 by omega]
      · rw [if_neg c3, if_neg c3, show (240 + c / 262144) % 256 = 240 + c / 262144 by omega, show (128 + c % 64) % 256 = 128 + c % 64 by omega, show (128 + c / 64 % 64) % 256 = 128 + c / 64 % 64 by omega, show (128 + c / 4096 % 64) % 256 = 128 + c / 4096 % 64 by omega]
theorem rd_z (x : Int) (l : List Int) : rd (x :: l) 0 = x := rfl
theorem bytes_byte (c : Int) (h0 : 0 ≤ c) (h1 : c ≤ 1114111) : (bytesF c).all byteB = true := by
  unfold bytesF byteB
  repeat' split
  all_goals simp; omega
/-- A scalar's bytes, and whatever behind, give it. -/
theorem bytes_next (c : Int) (h : scalB c = true) (r : List Int) : nextL (bytesF c ++ r) = (c, ((bytesF c).length : Int), 0) := by
  have hs := (scalB_iff c).1 h
  unfold bytesF
  by_cases c1 : c < 128
  · rw [if_pos c1]
    have hl : lenF c = 1 := by unfold lenF; rw [if_pos c1]
    unfold nextL
    simp only [List.cons_append, List.nil_append, rd_z, hl]
    rw [if_neg (by simp)]
    simp [tailsF, headF, limF, h]
    omega
  · rw [if_neg c1]
    by_cases c2 : c < 2048
    · rw [if_pos c2]
      have hl : lenF (192 + c / 64) = 2 := by unfold lenF; rw [if_neg (by omega), if_pos (by omega)]
      unfold nextL
      simp only [List.cons_append, List.nil_append, rd_z, hl]
      rw [if_neg (by simp)]
      have e : tailsF ((((192 + c / 64) :: (128 + c % 64) :: r).take 2).drop 1) (192 + c / 64 - headF 2) = some c := by
        simp only [List.take_succ_cons, List.take_zero, List.drop_succ_cons, List.drop_zero, tailsF, headF]
        rw [if_pos (by omega)]
        congr 1
        omega
      rw [e]
      simp only []
      rw [if_pos ⟨h, (show (128 : Int) ≤ c by omega)⟩]
      rfl
    · rw [if_neg c2]
      by_cases c3 : c < 65536
      · rw [if_pos c3]
        have hl : lenF (224 + c / 4096) = 3 := by unfold lenF; rw [if_neg (by omega), if_neg (by omega), if_pos (by omega)]
        unfold nextL
        simp only [List.cons_append, List.nil_append, rd_z, hl]
        rw [if_neg (by simp)]
        have e : tailsF ((((224 + c / 4096) :: (128 + c / 64 % 64) :: (128 + c % 64) :: r).take 3).drop 1) (224 + c / 4096 - headF 3) = some c := by
          simp only [List.take_succ_cons, List.take_zero, List.drop_succ_cons, List.drop_zero, tailsF, headF]
          rw [if_pos (by omega), if_pos (by omega)]
          congr 1
          omega
        rw [e]
        simp only []
        rw [if_pos ⟨h, (show (2048 : Int) ≤ c by omega)⟩]
        rfl
      · rw [if_neg c3]
        have hl : lenF (240 + c / 262144) = 4 := by unfold lenF; rw [if_neg (by omega), if_neg (by omega), if_neg (by omega), if_pos (by omega)]
        unfold nextL
        simp only [List.cons_append, List.nil_append, rd_z, hl]
        rw [if_neg (by simp)]
        have e : tailsF ((((240 + c / 262144) :: (128 + c / 4096 % 64) :: (128 + c / 64 % 64) :: (128 + c % 64) :: r).take 4).drop 1) (240 + c / 262144 - headF 4) = some c := by
          simp only [List.take_succ_cons, List.take_zero, List.drop_succ_cons, List.drop_zero, tailsF, headF]
          rw [if_pos (by omega), if_pos (by omega), if_pos (by omega)]
          congr 1
          omega
        rw [e]
        simp only []
        rw [if_pos ⟨h, (show (65536 : Int) ≤ c by omega)⟩]
        rfl
/-- What so many bytes may be (the document). -/
def cN : List Int → Nat → Int
  | b :: _, 1 => b
  | b :: x :: _, 2 => 64 * (b % 32) + x % 64
  | b :: x :: y :: _, 3 => 64 * (64 * (b % 16) + x % 64) + y % 64
  | b :: x :: y :: z :: _, 4 => 64 * (64 * (64 * (b % 8) + x % 64) + y % 64) + z % 64
  | _, _ => 0
/-- The other way: what Next finds is the first so many bytes. -/
theorem next_bytes (b : List Int) (hb : b.all byteB = true) (h : (nextL b).2.2 = 0) : ∃ n : Nat, ∃ c, nextL b = (c, (n : Int), 0) ∧ scalB c = true ∧ b.take n = bytesF c ∧ n = (bytesF c).length ∧ 1 ≤ n ∧ n ≤ 4 ∧ n ≤ b.length ∧ c = cN b n := by
  unfold nextL at h ⊢
  by_cases g : lenF (rd b 0) = 0 ∨ b.length < lenF (rd b 0) ∨ b = []
  · rw [if_pos g] at h; exact absurd h (by decide)
  rw [if_neg g] at h ⊢
  obtain ⟨b0, r, rfl⟩ : ∃ b0 r, b = b0 :: r := by
    cases b with
    | nil => exact absurd (.inr (.inr rfl)) g
    | cons b0 r => exact ⟨b0, r, rfl⟩
  rw [rd_z] at h g ⊢
  have hb0 : 0 ≤ b0 ∧ b0 < 256 := by
    have := List.all_eq_true.1 hb b0 (by simp)
    unfold byteB at this
    simpa using this
  have hlen : lenF b0 ≤ (b0 :: r).length := by omega
  have fin : ∀ (n : Nat) (c : Int), lenF b0 = n → tailsF (((b0 :: r).take n).drop 1) (b0 - headF n) = some c → (match tailsF (((b0 :: r).take (lenF b0)).drop 1) (b0 - headF (lenF b0)) with | none => ((0 : Int), (0 : Int), (11 : Int)) | some c => if scalB c = true ∧ limF (lenF b0) ≤ c then (c, (lenF b0 : Int), 0) else (0, 0, 11)) = (c, (n : Int), 0) ∨ (match tailsF (((b0 :: r).take (lenF b0)).drop 1) (b0 - headF (lenF b0)) with | none => ((0 : Int), (0 : Int), (11 : Int)) | some c => if scalB c = true ∧ limF (lenF b0) ≤ c then (c, (lenF b0 : Int), 0) else (0, 0, 11)) = (0, 0, 11) := by
    intro n c hn ht
    rw [hn, ht]
    simp only []
    by_cases q : scalB c = true ∧ limF n ≤ c
    · rw [if_pos q]; exact .inl rfl
    · rw [if_neg q]; exact .inr rfl
  cases ht : tailsF (((b0 :: r).take (lenF b0)).drop 1) (b0 - headF (lenF b0)) with
  | none => rw [ht] at h; exact absurd h (by simp)
  | some c =>
    rw [ht] at h
    simp only [] at h ⊢
    by_cases q : scalB c = true ∧ limF (lenF b0) ≤ c
    case neg => rw [if_neg q] at h; exact absurd h (by decide)
    rw [if_pos q]
    have hs := (scalB_iff c).1 q.1
    refine ⟨lenF b0, c, rfl, q.1, ?_⟩
    have hq := q.2
    have hz : lenF b0 ≠ 0 := fun e => g (.inl e)
    clear fin h g q
    by_cases c1 : b0 < 128
    · have hn : lenF b0 = 1 := by unfold lenF; rw [if_pos c1]
      rw [hn] at ht hq hlen ⊢
      simp only [List.take_succ_cons, List.take_zero, List.drop_succ_cons, List.drop_zero, tailsF, headF, Option.some.injEq] at ht
      obtain rfl : c = b0 := by omega
      unfold bytesF
      rw [if_pos c1]
      simp [cN]
    · by_cases c2 : 192 ≤ b0 ∧ b0 < 224
      · have hn : lenF b0 = 2 := by unfold lenF; rw [if_neg c1, if_pos c2]
        rw [hn] at ht hq hlen ⊢
        obtain ⟨x, r, rfl⟩ : ∃ x r', r = x :: r' := by
          cases r with
          | nil => simp at hlen
          | cons x r => exact ⟨x, r, rfl⟩
        simp only [List.take_succ_cons, List.take_zero, List.drop_succ_cons, List.drop_zero, tailsF, headF] at ht
        by_cases k1 : 128 ≤ x ∧ x < 192
        case neg => rw [if_neg k1] at ht; cases ht
        rw [if_pos k1] at ht
        have hc := Option.some.inj ht
        unfold limF at hq
        simp only [] at hq
        unfold bytesF
        rw [if_neg (by omega), if_pos (by omega)]
        simp [cN]
        omega
      · by_cases c3 : 224 ≤ b0 ∧ b0 < 240
        · have hn : lenF b0 = 3 := by unfold lenF; rw [if_neg c1, if_neg c2, if_pos c3]
          rw [hn] at ht hq hlen ⊢
          obtain ⟨x, y, r, rfl⟩ : ∃ x y r', r = x :: y :: r' := by
            match r, hlen with
            | x :: y :: r, _ => exact ⟨x, y, r, rfl⟩
          simp only [List.take_succ_cons, List.take_zero, List.drop_succ_cons, List.drop_zero, tailsF, headF] at ht
          by_cases k1 : 128 ≤ x ∧ x < 192
          case neg => rw [if_neg k1] at ht; cases ht
          rw [if_pos k1] at ht
          by_cases k2 : 128 ≤ y ∧ y < 192
          case neg => rw [if_neg k2] at ht; cases ht
          rw [if_pos k2] at ht
          have hc := Option.some.inj ht
          unfold limF at hq
          simp only [] at hq
          unfold bytesF
          rw [if_neg (by omega), if_neg (by omega), if_pos (by omega)]
          simp [cN]
          omega
        · by_cases c4 : 240 ≤ b0 ∧ b0 < 248
          · have hn : lenF b0 = 4 := by unfold lenF; rw [if_neg c1, if_neg c2, if_neg c3, if_pos c4]
            rw [hn] at ht hq hlen ⊢
            obtain ⟨x, y, z, r, rfl⟩ : ∃ x y z r', r = x :: y :: z :: r' := by
              match r, hlen with
              | x :: y :: z :: r, _ => exact ⟨x, y, z, r, rfl⟩
            simp only [List.take_succ_cons, List.take_zero, List.drop_succ_cons, List.drop_zero, tailsF, headF] at ht
            by_cases k1 : 128 ≤ x ∧ x < 192
            case neg => rw [if_neg k1] at ht; cases ht
            rw [if_pos k1] at ht
            by_cases k2 : 128 ≤ y ∧ y < 192
            case neg => rw [if_neg k2] at ht; cases ht
            rw [if_pos k2] at ht
            by_cases k3 : 128 ≤ z ∧ z < 192
            case neg => rw [if_neg k3] at ht; cases ht
            rw [if_pos k3] at ht
            have hc := Option.some.inj ht
            unfold limF at hq
            simp only [] at hq
            unfold bytesF
            rw [if_neg (by omega), if_neg (by omega), if_neg (by omega)]
            simp [cN]
            omega
          · have hn : lenF b0 = 0 := by unfold lenF; rw [if_neg c1, if_neg c2, if_neg c3, if_neg c4]
            exact absurd hn hz
end Go.Proofs.Ytijikaihmaganaa.Pure
