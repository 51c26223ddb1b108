/- frisketlaw01's live question. -/
import Derived.Test.YtijikaihmaganaaP6
import Derived.Test.YtijikaihmaganaaP7
import Derived.Lib.SlBytesConst
namespace Go.Proofs.Ytijikaihmaganaa.P
open Go.RowKit Go.Shelf Go.Proofs.YtijikaihmaganaaW.PrintWords Go.Proofs.YtijikaihmaganaaW.PrintLast Go.Proofs.YtijikaihmaganaaW.PrintMore
set_option linter.unusedVariables false
set_option linter.unusedSimpArgs false

theorem lit_C {α : Type} {enc : α → Value} {h1 : ∀ x, (enc x).oneCell' = true} (d : α) (W : World) (t : TypeId) (fz : Nat × Nat) (xs : List α) (hl : xs.length ≤ 1000) : (Kd.scalar enc h1).C (W.alloc (.cells (xs.map enc).toArray t fz)) (some ⟨W.heap.size, 0, none⟩) xs.length xs := by
  refine Kd.C_of_reads (d := d) ⟨rfl, by omega, fun _ => ⟨_, rfl, fun j hj => ?_⟩⟩
  have := cell_of_row (W.alloc (.cells (xs.map enc).toArray t fz)) W.heap.size j _ t fz (World.alloc_heap_new W _)
  rw [add_plain, this]
  simp [List.getD_eq_getElem?_getD, hj]
def frisketlaw01_alive.f : Option Bool := some true
set_option maxHeartbeats 4000000 in
set_option maxRecDepth 100000 in
theorem frisketlaw01_alive.calls (r : Bool) (w : World) (h : frisketlaw01_alive.f = some r) :
    Calls Try.prog 10 #[] w fun e w' => e = .returned (.bool r) ∧ Below w.heap.size w w' := by
  obtain rfl : true = r := Option.some.inj h
  clear h
  have HB := Aside0.mk (Below.refl w.heap.size w)
  have kc := fun (w : World) (C : Array Value) (n c : Nat) => Lib.run_convert_bytes_const (P := Try.prog) w 24 5 C n c Try.underlying24 Try.underlying5
  have HE : Aside0 (utf_Encode.f [65, 1488, 25991, 128512] = some ([65, 215, 144, 230, 150, 135, 240, 159, 152, 128], 0)) := ⟨by decide +kernel⟩
  have HD : Aside0 (utf_Decode.f [230, 150, 135, 97] = some ([25991, 97], 0)) := ⟨by decide +kernel⟩
  have HWR : Aside0 (utf_Wrong.f [97, 192, 128] = some (1, true)) := ⟨by decide +kernel⟩
  have HS : Aside0 (utf_Scalar.f 55296 = some false) := ⟨by decide +kernel⟩
  have hstr : strOfNums [65, 215, 144, 230, 150, 135, 240, 159, 152, 128] = ⟨#[65, 215, 144, 230, 150, 135, 240, 159, 152, 128]⟩ := by decide +kernel
  go_enter Try.func10, Try.ntmps10
  go_wp2_with (first
    | (go_at_call 11; refine (utf_Encode.calls _ _ [65, 1488, 25991, 128512] _ _ _ (lit_C (enc := Value.int .i64) (h1 := fun _ => rfl) 0 _ 3 (0, 0) [65, 1488, 25991, 128512] (by decide)) (by decide) HE.out).mono ?_; rintro e w1 ⟨v1, rfl, ho1, hb1⟩; obtain ⟨A1, c1, e1⟩ := Kd.R_slice ho1; subst e1; have HO1 := Aside0.mk ho1; have HB1 := Aside0.mk (below_step (below_alloc (Below.refl _ w) _) hb1); clear ho1 hb1)
    | (go_at_call 17; refine (utf_Decode.calls _ _ [230, 150, 135, 97] _ _ _ (lit_C (enc := Value.int .u8) (h1 := fun _ => rfl) 0 _ 5 (4, 5) [230, 150, 135, 97] (by decide)) (by decide) HD.out).mono ?_; rintro e w2 ⟨v2, rfl, ho2, hb2⟩; obtain ⟨A2, c2, e2⟩ := Kd.R_slice ho2; subst e2; have HO2 := Aside0.mk ho2; have HB2 := Aside0.mk (below_step (below_alloc (Below.refl _ w1) _) hb2); clear ho2 hb2)
    | (go_at_call 19; refine (utf_Wrong.calls _ _ [97, 192, 128] _ _ _ (lit_C (enc := Value.int .u8) (h1 := fun _ => rfl) 0 _ 5 (3, 4) [97, 192, 128] (by decide)) (by decide) HWR.out).mono ?_; rintro e w3 ⟨rfl, hb3⟩; have HB3 := Aside0.mk (below_step (below_alloc (Below.refl _ w2) _) hb3); clear hb3; have hs1 := own_string (P := Try.prog) Try.underlying24 Try.underlying5 Try.underlying9 (Kd.own_of_R (Kd.R_below (Kd.R_below HO1.out HB2.out) HB3.out)); have hx1 := (Kd.R_reads' (Kd.R_below HO2.out HB3.out)).2.2; obtain ⟨ad, ea, hx2⟩ := Kd.at_int hx1 0 (by decide) (by decide); subst ea; simp only [Int.toNat_zero] at hx2; rw [show ad.add 0 = ad by unfold Addr.add; split <;> simp_all] at hx2; rw [hstr] at hs1; simp only [List.length_cons, List.length_nil, Nat.reduceAdd] at hs1; clear hx1)
    | (go_at_call 13; refine (utf_Scalar.calls 55296 false _ HS.out).mono ?_; rintro e w4 ⟨rfl, ⟨nd, rfl⟩⟩))
  go_ret
  exact ⟨rfl, pw_below_drewN (below_step (below_step HB1.out HB2.out) HB3.out) _⟩
end Go.Proofs.Ytijikaihmaganaa.P
