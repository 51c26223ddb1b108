/- ruby.beside: a string's bytes, read. -/
import Derived.Test.YtijikaihmaganaaP6
namespace Go.Proofs.Ytijikaihmaganaa.P
open Go.RowKit Go.Shelf Go.Proofs.YtijikaihmaganaaW.PrintWords Go.Proofs.YtijikaihmaganaaW.PrintLast Go.Proofs.YtijikaihmaganaaW.PrintMore
set_option linter.unusedVariables false
set_option linter.unusedSimpArgs false

def ruby_beside.f (l : List S68) (n : Int) : Option Int :=
  if n < 0 then some 0 else if (l.length : Int) ≤ n then some 0 else if (rd_T68 l n).f4.size ≤ 1000 then (utf_Decode.f (bytesOf (rd_T68 l n).f4)).bind fun x => some (x.1.length : Int) else none
set_option maxHeartbeats 8000000 in
set_option maxRecDepth 100000 in
theorem ruby_beside.calls (A0 : Option Addr) (c0 : Nat) (l0 : List S68) (n : Int) (r : Int) (w : World) (hr0 : Kd.C k68 w A0 l0.length l0) (hc0 : l0.length ≤ c0) (h : ruby_beside.f l0 n = some r) :
    Calls Try.prog 36 #[.slice A0 l0.length c0, .int .i64 n] w fun e w' => e = .returned (.int .i64 r) ∧ Below w.heap.size w w' := by
  have hu68 := Try.underlying68
  have HR0 := Aside0.mk hr0
  clear hr0
  unfold ruby_beside.f at h
  by_cases c1 : n < 0
  · rw [if_pos c1] at h
    obtain rfl := Option.some.inj h
    clear h
    go_enter Try.func36, Try.ntmps36
    go_wp2
    go_ret
    exact ⟨rfl, Below.refl _ _⟩
  · rw [if_neg c1] at h
    by_cases c2 : (l0.length : Int) ≤ n
    · rw [if_pos c2] at h
      obtain rfl := Option.some.inj h
      clear h
      go_enter Try.func36, Try.ntmps36
      go_wp2
      go_ret
      exact ⟨rfl, Below.refl _ _⟩
    · rw [if_neg c2] at h
      obtain ⟨hs, h⟩ : (rd_T68 l0 n).f4.size ≤ 1000 ∧ ((utf_Decode.f (bytesOf (rd_T68 l0 n).f4)).bind fun x => some (x.1.length : Int)) = some r := by
        by_cases c3 : (rd_T68 l0 n).f4.size ≤ 1000
        · rw [if_pos c3] at h; exact ⟨c3, h⟩
        · rw [if_neg c3] at h; simp at h
      obtain ⟨⟨x, er⟩, hx, h⟩ := Option.bind_eq_some_iff.mp h
      obtain rfl := Option.some.inj h
      clear h
      obtain ⟨m, rfl⟩ : ∃ m : Nat, n = (m : Int) := ⟨n.toNat, by omega⟩
      obtain ⟨ad, e, hx0, hx1, hx2, hx3, hx4, hx5⟩ := at_T68 HR0.out (m : Int) (by omega) (by omega)
      subst e
      simp only [Int.toNat_natCast] at hx0 hx1 hx2 hx3 hx4 hx5
      generalize (rd_T68 l0 (m : Int)).f4 = s at hx hx4 hs
      have HX := Aside0.mk hx
      have HS := Aside0.mk hs
      have cb : decide ((l0.length : Int) ≤ (m : Int)) = false := decide_eq_false c2
      have cb2 : decide ((m : Int) < (l0.length : Int)) = true := decide_eq_true (by omega)
      have cn : decide ((m : Int) < 0) = false := decide_eq_false c1
      have c3 : (m < l0.length) = True := eq_true (by omega)
      have kb := fun W => print_bytes (P := Try.prog) 9 24 5 Try.underlying9 Try.underlying24 Try.underlying5 s W
      clear hx hs
      go_enter Try.func36, Try.ntmps36
      go_wp2_with (first
        | (go_at_call 17; have hrd := bytes_reads w 5 s (by have := HS.out; omega); have hK := Kd.C_of_reads (d := 0) (h1 := fun _ => rfl) (show ReadsOf (Value.int .u8) 0 _ _ _ _ from hrd); have hD := utf_Decode.calls (some ⟨w.heap.size, 0, none⟩) (grownCap w s.size 0 5) (bytesOf s) x er (Lib.bytesWorld w 5 s) (by rw [bytesOf_length]; exact hK) (by rw [bytesOf_length]; exact grownCap_ge _ _ _ _) HX.out; rw [bytesOf_length] at hD; refine hD.mono ?_; rintro e w2 ⟨v1, rfl, ho1, hb1⟩; obtain ⟨A1, c1, e1⟩ := Kd.R_slice ho1; subst e1; have HB1 := Aside0.mk hb1; clear ho1 hb1 hD hK hrd))
      go_ret
      exact ⟨rfl, below_step (bytes_below (Below.refl _ w) (Nat.le_refl _) 5 s) HB1.out⟩
end Go.Proofs.Ytijikaihmaganaa.P
