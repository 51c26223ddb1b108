/- utf.Encode: scalars' bytes, or the error. -/
import Derived.Test.YtijikaihmaganaaP1
import Derived.Test.YtijikaihmaganaaHPut
namespace Go.Proofs.Ytijikaihmaganaa.P
open Go.RowKit Go.Shelf Go.Proofs.YtijikaihmaganaaW.PrintWords Go.Proofs.YtijikaihmaganaaW.PrintLast Go.Proofs.YtijikaihmaganaaW.PrintMore
set_option linter.unusedVariables false
set_option linter.unusedSimpArgs false

def scalB (c : Int) : Bool := (utf_Scalar.f c).getD false
theorem scal_eq (c : Int) : utf_Scalar.f c = some (scalB c) := by
  unfold scalB
  have h : ∃ b, utf_Scalar.f c = some b := by
    unfold utf_Scalar.f
    repeat' split
    all_goals exact ⟨_, rfl⟩
  obtain ⟨b, h⟩ := h
  rw [h]; rfl
theorem scalB_iff (c : Int) : scalB c = true ↔ 0 ≤ c ∧ c ≤ 1114111 ∧ (c < 55296 ∨ 57343 < c) := by
  unfold scalB utf_Scalar.f
  split
  · split
    · split
      · simp; omega
      · simp; omega
    · simp; omega
  · simp; omega
theorem bytesF_len (c : Int) : (bytesF c).length ≤ 4 := by
  unfold bytesF
  repeat' split
  all_goals simp
theorem put_calls (w0 W : World) (o : List Int) (v : Value) (c : Int) (hrow : Row W w0.heap.size v o) (hB : Below w0.heap.size w0 W) (h0 : 0 ≤ c) (h1 : c ≤ 1114111) (hl : o.length + 4 ≤ 140737488355328) :
    Calls Try.prog 29 #[v, .int .i64 c] W fun e W' => ∃ v', e = .returned v' ∧ Row W' w0.heap.size v' (o ++ bytesF c) ∧ Below w0.heap.size w0 W' := by
  by_cases c1 : c < 128
  · exact put1 w0 W o v c hrow hB h0 c1 hl
  · by_cases c2 : c < 2048
    · exact put2 w0 W o v c hrow hB (by omega) c2 hl
    · by_cases c3 : c < 65536
      · exact put3 w0 W o v c hrow hB (by omega) c3 hl
      · exact put4 w0 W o v c hrow hB (by omega) (by omega) hl
/-- The bytes of scalars, or none. -/
def encL : List Int → List Int × Int
  | [] => ([], 0)
  | c :: r => if scalB c = true then (if (encL r).2 = 0 then (bytesF c ++ (encL r).1, 0) else ([], 11)) else ([], 11)
def utf_Encode.f (l : List Int) : Option (List Int × Int) := if l.length * 8 ≤ 140737488351232 then some (encL l) else none
def encW (o : List Int) (r : List Int × Int) : List Int × Int := if r.2 = 0 then (o ++ r.1, 0) else ([], 11)
theorem encW_nil (l : List Int) : encW [] (encL l) = encL l := by
  unfold encW
  cases l with
  | nil => rfl
  | cons c r =>
    rw [encL]
    by_cases h : scalB c = true
    · rw [if_pos h]
      by_cases g : (encL r).2 = 0
      · rw [if_pos g]; rfl
      · rw [if_neg g]; rfl
    · rw [if_neg h]; rfl
theorem encW_cons (o r : List Int) (c : Int) (h : scalB c = true) : encW o (encL (c :: r)) = encW (o ++ bytesF c) (encL r) := by
  unfold encW
  rw [encL, if_pos h]
  by_cases g : (encL r).2 = 0
  · rw [if_pos g, if_pos g]; simp
  · rw [if_neg g, if_neg g]; rfl
set_option maxHeartbeats 8000000 in
set_option maxRecDepth 100000 in
theorem utf_Encode.calls (A0 : Option Addr) (c0 : Nat) (l0 : List Int) (r1 : List Int) (r2 : Int) (w : World) (hr0 : Kd.C (Kd.int .i64) w A0 l0.length l0) (hc0 : l0.length ≤ c0) (h : utf_Encode.f l0 = some (r1, r2)) :
    Calls Try.prog 11 #[.slice A0 l0.length c0] w fun e w' => ∃ v0_ : Value, e = .returned (.tuple #[v0_, .int .i64 r2]) ∧ Kd.R (Kd.int .u8) 5 w' w.heap.size (fun _ => True) v0_ r1 ∧ Below w.heap.size w w' := by
  unfold utf_Encode.f at h
  by_cases hl : l0.length * 8 ≤ 140737488351232
  case neg => rw [if_neg hl] at h; cases h
  rw [if_pos hl] at h
  have h' := Option.some.inj h
  have HR0 := Aside0.mk hr0
  have HL := Aside0.mk hl
  have H := Aside0.mk h'
  clear hr0 hl h h'
  go_enter Try.func11, Try.ntmps11
  go_wp2
  go_loopg [4, 9] l0.length (fun kq v4 v9 w' => ∃ (i : Nat) (o : List Int) (A : Option Addr) (c : Nat), v9 = .int .i64 (i : Int) ∧ v4 = .slice A o.length c ∧ Aside0 (kq + i = l0.length) ∧ Aside0 (encW o (encL (l0.drop i)) = (r1, r2)) ∧ Aside0 (o.length ≤ 4 * i) ∧ Aside0 (Row w' w.heap.size (.slice A o.length c) o) ∧ Aside0 (Below w.heap.size w w'))
  case atStart => exact ⟨0, [], none, 0, rfl, rfl, ⟨by omega⟩, ⟨by rw [encW_nil]; exact H.out⟩, ⟨by simp⟩, ⟨Kd.R_nil _ _ _ _ _⟩, ⟨Below.refl _ _⟩⟩
  case round =>
    obtain ⟨i, o, A, c, rfl, rfl, HI, HX, HO, HRW, HB⟩ := hrel
    by_cases ci : (i : Int) < (l0.length : Int)
    · have cb : decide ((i : Int) < (l0.length : Int)) = true := decide_eq_true ci
      have cil : i < l0.length := by omega
      obtain ⟨ad, e, hx0⟩ := Kd.at_int (Kd.C_below HR0.out HB.out) (i : Int) (by omega) ci
      cases e
      simp only [Int.toNat_natCast] at hx0
      have hi0 : (0 : Int) ≤ (i : Int) := by omega
      have hx := HX.out
      have hdr : l0.drop i = rd l0 (i : Int) :: l0.drop (i + 1) := by
        rw [List.drop_eq_getElem_cons cil]
        congr 1
        unfold rd; simp [List.getD_eq_getElem?_getD, cil]
      rw [hdr] at hx
      have HWR : Aside0 (wrap64 ((i : Int) + 1) = ((i + 1 : Nat) : Int)) := ⟨by unfold wrap64; have := HL.out; omega⟩
      have cil' := eq_true cil
      cases hs : scalB (rd l0 (i : Int)) with
      | false =>
        rw [encL, if_neg (by rw [hs]; decide)] at hx
        have HS : Aside0 (utf_Scalar.f (rd l0 (i : Int)) = some false) := ⟨by rw [scal_eq, hs]⟩
        have hx2 : (([] : List Int), (11 : Int)) = (r1, r2) := hx
        injection hx2 with e1 e2
        subst e1 e2
        clear hs hdr hx cil
        go_wp2_with (go_at_call 13; refine (utf_Scalar.calls (rd l0 (i : Int)) false _ HS.out).mono ?_; rintro e w1 ⟨rfl, ⟨nd, rfl⟩⟩)
        go_ret2
        exact ⟨_, rfl, Kd.R_nil _ _ _ _ _, pw_below_drewN HB.out _⟩
      | true =>
        rw [encW_cons _ _ _ hs] at hx
        have HX2 := Aside0.mk hx
        have HS : Aside0 (utf_Scalar.f (rd l0 (i : Int)) = some true) := ⟨by rw [scal_eq, hs]⟩
        have hsc := (scalB_iff _).1 hs
        have HP := Aside0.mk (fun nd => put_calls w (wr.drewN nd) o (.slice A o.length c) (rd l0 (i : Int)) (Kd.R_drewN HRW.out nd) (pw_below_drewN HB.out nd) hsc.1 hsc.2.1 (by have := HO.out; have := HL.out; omega))
        clear hs hdr hx cil hsc
        go_wp2_with (first | (go_at_call 13; refine (utf_Scalar.calls (rd l0 (i : Int)) true _ HS.out).mono ?_; rintro e w1 ⟨rfl, ⟨nd, rfl⟩⟩) | (go_at_call 29; refine (HP.out _).mono ?_; rintro e w1 ⟨v1, rfl, ho, hb⟩; obtain ⟨A1, c1, e1⟩ := Kd.R_slice ho; subst e1; have HO1 := Aside0.mk ho; have HB1 := Aside0.mk hb; clear ho hb))
        go_roundg (gk - 1)
        case measure => have := HI.out; omega
        case rel => exact ⟨i + 1, o ++ bytesF (rd l0 (i : Int)), A1, c1, by rw [HWR.out], by first | rfl | simp, ⟨by have := HI.out; omega⟩, ⟨HX2.out⟩, ⟨by have := bytesF_len (rd l0 (i : Int)); have := HO.out; rw [List.length_append]; omega⟩, HO1, HB1⟩
    · have cb : decide ((i : Int) < (l0.length : Int)) = false := decide_eq_false ci
      have hx := HX.out
      rw [List.drop_eq_nil_of_le (by omega)] at hx
      have hx2 : (o ++ [], (0 : Int)) = (r1, r2) := hx
      rw [List.append_nil] at hx2
      injection hx2 with e1 e2
      subst e1 e2
      clear hx
      go_wp2
      go_ret2
      exact ⟨_, rfl, HRW.out, HB.out⟩
end Go.Proofs.Ytijikaihmaganaa.P
