/- fill.right: slices.ContainsFunc over whole numbers with its two literals; no condition but the lengths. -/
import Derived.Test.YteeoomenncocpaaP0
import Derived.Shelf.Abstract
namespace Go.Proofs.Yteeoomenncocpaa.P
open Go.RowKit Go.Shelf Go.Proofs.YteeoomenncocpaaW.PrintWords Go.Proofs.YteeoomenncocpaaW.PrintLast Go.Proofs.YteeoomenncocpaaW.PrintMore
set_option linter.unusedVariables false
set_option linter.unusedSimpArgs false

def badR (x : Int) : Bool := decide (x < 1)
def badE (x : Int) : Bool := decide (x < 0) || decide (2 < x)
def idxI (p : Int → Bool) : List Int → Int → Int
  | [], _ => -1
  | x :: r, i => if p x = true then i else idxI p r (i + 1)
theorem idxI_at (p : Int → Bool) (l : List Int) (i : Nat) (h : i < l.length) : idxI p (l.drop i) i = if p (rd l i) = true then (i : Int) else idxI p (l.drop (i + 1)) (i + 1) := by
  rw [List.drop_eq_getElem_cons h]
  have e : rd l (i : Int) = l[i] := by
    unfold rd
    simp [List.getD_eq_getElem?_getD, List.getElem?_eq_getElem h]
  rw [e]
  rfl
theorem idxI_any (p : Int → Bool) : ∀ (l : List Int) (i : Int), 0 ≤ i → decide (0 ≤ idxI p l i) = l.any p
  | [], i, _ => by simp [idxI]
  | x :: r, i, h => by
    unfold idxI
    by_cases hp : p x = true
    · simp [hp, h]
    · simp [hp, idxI_any p r (i + 1) (by omega)]
theorem badR_calls (x : Int) (w : World) : Calls Try.prog 24 #[.int .i64 x] w fun e w' => e = .returned (.bool (badR x)) ∧ Below w.heap.size w w' := by
  go_enter Try.func24, Try.ntmps24
  by_cases h1 : x < 1
  · go_wp2
    go_ret
    exact ⟨by simp [badR, h1], Below.refl _ _⟩
  · go_wp2
    go_ret
    exact ⟨by simp [badR]; omega, Below.refl _ _⟩
theorem badE_calls (x : Int) (w : World) : Calls Try.prog 25 #[.int .i64 x] w fun e w' => e = .returned (.bool (badE x)) ∧ Below w.heap.size w w' := by
  go_enter Try.func25, Try.ntmps25
  by_cases h1 : x < 0
  · go_wp2
    go_ret
    exact ⟨by simp [badE, h1], Below.refl _ _⟩
  · by_cases h2 : 2 < x
    · go_wp2
      go_ret
      exact ⟨by simp [badE, h2], Below.refl _ _⟩
    · go_wp2
      go_ret
      exact ⟨by simp [badE]; omega, Below.refl _ _⟩
theorem idxI_calls (g : Nat) (p : Int → Bool) (hp : ∀ (x : Int) (w : World), Calls Try.prog g #[.int .i64 x] w fun e w' => e = .returned (.bool (p x)) ∧ Below w.heap.size w w')
    (eg : ∀ args w, (callFunc g args).run Try.prog w = .ok (.enter g args) w) (A0 : Option Addr) (c0 : Nat) (l0 : List Int) (w : World) (hr0 : Kd.C (Kd.int .i64) w A0 l0.length l0) (hc0 : l0.length ≤ c0) (hl : l0.length < 9223372036854775807) :
    Calls Try.prog 28 #[.slice A0 l0.length c0, .func (.func g) #[] #[]] w fun e w' => e = .returned (.int .i64 (idxI p l0 0)) ∧ Below w.heap.size w w' := by
  have HR0 := Aside0.mk hr0
  have HC0 := Aside0.mk hc0
  have HL := Aside0.mk hl
  have HP := Aside0.mk hp
  clear hr0 hc0 hl hp
  go_enter Try.func28, Try.ntmps28
  go_wp2
  go_loopg [5, 8] l0.length (fun kq v5 v8 w' => ∃ (i : Nat), v8 = .int .i64 (i : Int) ∧ Aside0 (i + kq = l0.length) ∧ Aside0 (idxI p (l0.drop i) i = idxI p l0 0) ∧ Aside0 (Below w.heap.size w w'))
  case atStart => exact ⟨0, rfl, ⟨by omega⟩, ⟨rfl⟩, ⟨Below.refl _ _⟩⟩
  case round =>
    obtain ⟨i, rfl, HI, HX, HB⟩ := hrel
    by_cases c : (i : Int) < (l0.length : Int)
    · have hi : i < l0.length := by omega
      have hx := HX.out
      rw [idxI_at p l0 i hi] at hx
      obtain ⟨ad, e, hx0⟩ := Kd.at_int (Kd.C_below HR0.out HB.out) (i : Int) (by omega) c
      cases e
      simp only [Int.toNat_natCast] at hx0
      have cb : decide ((i : Int) < (l0.length : Int)) = true := decide_eq_true c
      have q0 : decide ((0 : Int) ≤ (i : Int)) = true := decide_eq_true (by omega)
      have hin := HP.out (rd l0 i) wr
      go_wp2_with fail
      refine hin.mono ?_
      rintro e w' ⟨rfl, hb⟩
      by_cases hp : p (rd l0 i) = true
      · rw [hp]
        rw [if_pos hp] at hx
        go_wp2
        go_ret
        exact ⟨rfl, below_step HB.out hb⟩
      · have hp' : p (rd l0 i) = false := by simpa using hp
        rw [hp']
        rw [if_neg hp] at hx
        go_wp2
        go_roundg (gk - 1)
        case measure => have := HI.out; omega
        case rel => exact ⟨i + 1, by (have hw : wrap64 ((i : Int) + 1) = ((i + 1 : Nat) : Int) := by unfold wrap64; have := HL.out; omega); rw [hw], ⟨by have := HI.out; omega⟩, ⟨hx⟩, ⟨below_step HB.out hb⟩⟩
    · have hx := HX.out
      have hd : l0.drop i = [] := List.drop_eq_nil_of_le (by omega)
      rw [hd] at hx
      have cb : decide ((i : Int) < (l0.length : Int)) = false := decide_eq_false c
      go_wp2
      go_ret
      exact ⟨by rw [← hx]; rfl, HB.out⟩
theorem hasI_calls (g : Nat) (p : Int → Bool) (hp : ∀ (x : Int) (w : World), Calls Try.prog g #[.int .i64 x] w fun e w' => e = .returned (.bool (p x)) ∧ Below w.heap.size w w')
    (eg : ∀ args w, (callFunc g args).run Try.prog w = .ok (.enter g args) w) (A0 : Option Addr) (c0 : Nat) (l0 : List Int) (w : World) (hr0 : Kd.C (Kd.int .i64) w A0 l0.length l0) (hc0 : l0.length ≤ c0) (hl : l0.length < 9223372036854775807) :
    Calls Try.prog 23 #[.slice A0 l0.length c0, .func (.func g) #[] #[]] w fun e w' => e = .returned (.bool (l0.any p)) ∧ Below w.heap.size w w' := by
  have hi := idxI_calls g p hp eg A0 c0 l0 w hr0 hc0 hl
  clear hp hr0 hc0 hl
  go_enter Try.func23, Try.ntmps23
  go_wp2_with fail
  refine hi.mono ?_
  rintro e w' ⟨rfl, hb⟩
  go_wp2
  go_ret
  exact ⟨by rw [← idxI_any p l0 0 (by omega)]; rfl, hb⟩
def rightF (l0 l1 : List Int) (c : Int) : Bool := decide ((l0.length : Int) = (l1.length : Int)) && (decide (1 ≤ c) && (decide (c ≤ 1048576) && !(l0.any badR || l1.any badE)))
theorem right_calls (A0 : Option Addr) (c0 : Nat) (l0 : List Int) (A1 : Option Addr) (c1 : Nat) (l1 : List Int) (c : Int) (w : World) (hr0 : Kd.C (Kd.int .i64) w A0 l0.length l0) (hc0 : l0.length ≤ c0) (hr1 : Kd.C (Kd.int .i64) w A1 l1.length l1) (hc1 : l1.length ≤ c1)
    (hl0 : l0.length < 9223372036854775807) (hl1 : l1.length < 9223372036854775807) :
    Calls Try.prog 16 #[.slice A0 l0.length c0, .slice A1 l1.length c1, .int .i64 c] w fun e w' => e = .returned (.bool (rightF l0 l1 c)) ∧ Below w.heap.size w w' := by
  have h0 := hasI_calls 24 badR badR_calls (enters_of Try.func24 (by kernel_rfl) rfl) A0 c0 l0 w hr0 hc0 hl0
  have h1 := fun w1 (hb : Below w.heap.size w w1) => hasI_calls 25 badE badE_calls (enters_of Try.func25 (by kernel_rfl) rfl) A1 c1 l1 w1 (Kd.C_below hr1 hb) hc1 hl1
  clear hr0 hc0 hr1 hc1 hl0 hl1
  go_enter Try.func16, Try.ntmps16
  go_wp2_with fail
  refine h0.mono ?_
  rintro e w1 ⟨rfl, hb⟩
  have P : ∀ (w' : World) (b : Bool), b = (l0.any badR || l1.any badE) → Below w.heap.size w w' → True := fun _ _ _ _ => trivial
  cases hA : l0.any badR with
  | true =>
    by_cases k1 : (l0.length : Int) = (l1.length : Int)
    · by_cases k2 : 1 ≤ c
      · by_cases k3 : c ≤ 1048576
        · go_wp2
          go_ret
          exact ⟨by simp [rightF, hA], hb⟩
        · go_wp2
          go_ret
          exact ⟨by simp [rightF, hA], hb⟩
      · go_wp2
        go_ret
        exact ⟨by simp [rightF, hA], hb⟩
    · go_wp2
      go_ret
      exact ⟨by simp [rightF, hA], hb⟩
  | false =>
    have h2 := h1 w1 hb
    go_wp2_with fail
    refine h2.mono ?_
    rintro e w2 ⟨rfl, hb2⟩
    have hB := below_step hb hb2
    by_cases k1 : (l0.length : Int) = (l1.length : Int)
    · by_cases k2 : 1 ≤ c
      · by_cases k3 : c ≤ 1048576
        · go_wp2
          go_ret
          exact ⟨by simp [rightF, hA, k1, k2, k3], hB⟩
        · go_wp2
          go_ret
          exact ⟨by simp [rightF, show ¬ c ≤ 1048576 by omega], hB⟩
      · go_wp2
        go_ret
        exact ⟨by simp [rightF, show ¬ 1 ≤ c by omega], hB⟩
    · go_wp2
      go_ret
      exact ⟨by simp [rightF]; intro h; exact absurd h k1, hB⟩
end Go.Proofs.Yteeoomenncocpaa.P
