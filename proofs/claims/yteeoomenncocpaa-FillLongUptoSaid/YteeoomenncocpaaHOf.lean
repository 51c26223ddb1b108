/- fill.Of: slices.IndexFunc over lines with the literal that asks where a thing stands; no condition. -/
import Derived.Test.YteeoomenncocpaaP0
namespace Go.Proofs.Yteeoomenncocpaa.P
open Go.RowKit Go.Proofs.YteeoomenncocpaaW.PrintWords Go.Proofs.YteeoomenncocpaaW.PrintLast Go.Proofs.YteeoomenncocpaaW.PrintMore
set_option linter.unusedVariables false
set_option linter.unusedSimpArgs false

def inL (a : Int) (x : S32) : Bool := decide (x.f0 ≤ a) && decide (a < x.f1)
def idxL (a : Int) : List S32 → Int → Int
  | [], _ => -1
  | x :: r, i => if inL a x = true then i else idxL a r (i + 1)
def fill_Of.f (l0 : List S32) (a1 : Int) : Option Int := if l0.length < 9223372036854775807 then some (idxL a1 l0 0) else none
theorem idxL_at (a : Int) (l : List S32) (i : Nat) (h : i < l.length) : idxL a (l.drop i) i = if inL a (rd_T32 l i) = true then (i : Int) else idxL a (l.drop (i + 1)) (i + 1) := by
  rw [List.drop_eq_getElem_cons h]
  have e : rd_T32 l (i : Int) = l[i] := by
    unfold rd_T32
    simp [List.getD_eq_getElem?_getD, List.getElem?_eq_getElem h]
  rw [e]
  rfl
theorem inL_calls (B : Nat) (a : Int) (x : S32) (w : World) (hB : B < w.heap.size) (hc : w.cell? ⟨B, 0, none⟩ = some (.int .i64 a)) :
    Calls Try.prog 22 #[.agg #[.int .i64 x.f0, .int .i64 x.f1, .int .i64 x.f2, .bool x.f3], .pointer (some ⟨B, 0, none⟩)] w fun e w' => e = .returned (.bool (inL a x)) ∧ Below w.heap.size w w' := by
  have hu32 := Try.underlying32
  obtain ⟨x0, x1, x2, x3⟩ := x
  simp only
  go_enter Try.func22, Try.ntmps22
  by_cases h1 : x0 ≤ a
  · by_cases h2 : a < x1
    · go_wp2
      go_ret
      exact ⟨by simp [inL, h1, h2], by repeat (first | (with_reducible first | exact Below.refl _ _ | apply below_alloc | apply pw_below_drewN | apply below_drew1))⟩
    · go_wp2
      go_ret
      exact ⟨by simp [inL, h1, h2], by repeat (first | (with_reducible first | exact Below.refl _ _ | apply below_alloc | apply pw_below_drewN | apply below_drew1))⟩
  · go_wp2
    go_ret
    exact ⟨by simp [inL, show ¬ (x0 ≤ a) by omega], by repeat (first | (with_reducible first | exact Below.refl _ _ | apply below_alloc | apply pw_below_drewN | apply below_drew1))⟩
theorem idxF_calls (B : Nat) (a : Int) (A0 : Option Addr) (c0 : Nat) (l0 : List S32) (w : World) (hr0 : Kd.C k32 w A0 l0.length l0) (hc0 : l0.length ≤ c0) (hl : l0.length < 9223372036854775807) (hB : B < w.heap.size) (hc : w.cell? ⟨B, 0, none⟩ = some (.int .i64 a)) :
    Calls Try.prog 21 #[.slice A0 l0.length c0, .func (.func 22) #[] #[.pointer (some ⟨B, 0, none⟩)]] w fun e w' => e = .returned (.int .i64 (idxL a l0 0)) ∧ Below w.heap.size w w' := by
  have hu32 := Try.underlying32
  have HR0 := Aside0.mk hr0
  have HC0 := Aside0.mk hc0
  have HL := Aside0.mk hl
  have HBB := Aside0.mk hB
  have HCC := Aside0.mk hc
  clear hr0 hc0 hl hB hc
  go_enter Try.func21, Try.ntmps21
  go_wp2
  go_loopg [5, 8] l0.length (fun kq v5 v8 w' => ∃ (i : Nat), v8 = .int .i64 (i : Int) ∧ Aside0 (i + kq = l0.length) ∧ Aside0 (idxL a (l0.drop i) i = idxL a l0 0) ∧ Aside0 (Below w.heap.size w w'))
  case atStart => exact ⟨0, rfl, ⟨by omega⟩, ⟨rfl⟩, ⟨Below.refl _ _⟩⟩
  case round =>
    obtain ⟨i, rfl, HI, HX, HB⟩ := hrel
    by_cases c : (i : Int) < (l0.length : Int)
    · have hi : i < l0.length := by omega
      have hx := HX.out
      rw [idxL_at a l0 i hi] at hx
      obtain ⟨ad, e, hx0, hx1, hx2, hx3⟩ := at_T32 (Kd.C_below HR0.out HB.out) (i : Int) (by omega) c
      cases e
      simp only [Int.toNat_natCast] at hx0 hx1 hx2 hx3
      have cb : decide ((i : Int) < (l0.length : Int)) = true := decide_eq_true c
      have q0 : decide ((0 : Int) ≤ (i : Int)) = true := decide_eq_true (by omega)
      have hin := inL_calls B a (rd_T32 l0 i) wr (Nat.lt_of_lt_of_le HBB.out HB.out.size) ((HB.out.cell (p := ⟨B, 0, none⟩) HBB.out).trans HCC.out)
      go_wp2_with fail
      refine hin.mono ?_
      rintro e w' ⟨rfl, hb⟩
      by_cases hp : inL a (rd_T32 l0 i) = true
      · rw [hp]
        rw [if_pos hp] at hx
        go_wp2
        go_ret
        exact ⟨rfl, below_step HB.out hb⟩
      · have hp' : inL a (rd_T32 l0 i) = false := by simpa using hp
        rw [hp']
        rw [if_neg hp] at hx
        go_wp2
        go_roundg (gk - 1)
        case measure => have := HI.out; omega
        case rel => exact ⟨i + 1, by (have hw : wrap64 ((i : Int) + 1) = ((i + 1 : Nat) : Int) := by unfold wrap64; have := HL.out; omega); rw [hw], ⟨by have := HI.out; omega⟩, ⟨hx⟩, ⟨below_step HB.out hb⟩⟩
    · have hx := HX.out
      have hd : l0.drop i = [] := List.drop_eq_nil_of_le (by omega)
      rw [hd] at hx
      have cb : decide ((i : Int) < (l0.length : Int)) = false := decide_eq_false c
      go_wp2
      go_ret
      exact ⟨by rw [← hx]; rfl, HB.out⟩
theorem fill_Of.calls (A0 : Option Addr) (c0 : Nat) (l0 : List (S32)) (a1 : Int) (r : Int) (w : World) (hr0 : Kd.C k32 w A0 l0.length l0) (hc0 : l0.length ≤ c0) (h : fill_Of.f l0 a1 = some r) :
    Calls Try.prog 12 #[.slice A0 l0.length c0, .int .i64 a1] w fun e w' => e = .returned (.int .i64 r) ∧ Below w.heap.size w w' := by
  unfold fill_Of.f at h
  by_cases hl : l0.length < 9223372036854775807
  · rw [if_pos hl] at h
    obtain rfl := Option.some.inj h
    clear h
    go_enter Try.func12, Try.ntmps12
    go_wp2_with fail
    refine (idxF_calls w.heap.size a1 A0 c0 l0 _ (by repeat (first | exact hr0 | (with_reducible refine Kd.C_alloc ?_ _))) hc0 hl (by simp) (by simp)).mono ?_
    rintro e w' ⟨rfl, hb⟩
    go_wp2
    go_ret
    exact ⟨rfl, below_step (below_alloc (Below.refl _ _) _) hb⟩
  · rw [if_neg hl] at h
    cases h
end Go.Proofs.Yteeoomenncocpaa.P
