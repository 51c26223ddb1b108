/- The law UtfOrder: of two scalars the lesser one's bytes come ahead. -/
import Derived.Test.YtijikaihmaganaaPureOrderF
namespace Go.Proofs.Ytijikaihmaganaa.P
open Go.RowKit Go.Shelf Go.Proofs.YtijikaihmaganaaW.PrintWords Go.Proofs.YtijikaihmaganaaW.PrintLast Go.Proofs.YtijikaihmaganaaW.PrintMore
attribute [local go_sem] max2_int min2_int max_two min_two max_three min_three max_four min_four
set_option linter.unusedVariables false
set_option linter.unusedSimpArgs false

def frisketlaw01_UtfOrder.f (a0 a1 : Int) : Option Bool := some true
theorem enc1_yes (c : Int) (h : scalB c = true) : utf_Encode.f [c] = some (bytesF c, 0) := by
  unfold utf_Encode.f
  rw [if_pos (by simp)]
  simp [encL, h]
theorem enc1_no (c : Int) (h : scalB c = false) : utf_Encode.f [c] = some ([], 11) := by
  unfold utf_Encode.f
  rw [if_pos (by simp)]
  simp [encL, h]
set_option maxHeartbeats 4000000 in
set_option maxRecDepth 100000 in
theorem order_nn (c d : Int) (w : World) (hc : scalB c = false) (hd : scalB d = false) :
    Calls Try.prog 6 #[.int .i64 c, .int .i64 d] w fun e w' => e = .returned (.bool true) ∧ Below w.heap.size w w' := by
  have HEc := Aside0.mk (enc1_no c hc)
  have HEd := Aside0.mk (enc1_no d hd)
  have HSc : Aside0 (utf_Scalar.f c = some false) := ⟨by rw [scal_eq, hc]⟩
  have HSd : Aside0 (utf_Scalar.f d = some false) := ⟨by rw [scal_eq, hd]⟩
  clear hc hd
  go_enter Try.func6, Try.ntmps6
  go_wp2_with (first | (go_at_call 11; refine (utf_Encode.calls _ _ [c] _ _ _ (lit_C (enc := Value.int .i64) (h1 := fun _ => rfl) 0 _ 3 (0, 0) [c] (by simp)) (by simp) HEc.out).mono ?_; rintro e w1 ⟨vc, rfl, hoc, hbc⟩; obtain ⟨Ac, cc, ec⟩ := Kd.R_slice hoc; subst ec; have HOc := Aside0.mk hoc; have HBc := Aside0.mk (below_step (below_alloc (Below.refl _ w) _) hbc); clear hoc hbc) | (go_at_call 11; refine (utf_Encode.calls _ _ [d] _ _ _ (lit_C (enc := Value.int .i64) (h1 := fun _ => rfl) 0 _ 3 (0, 0) [d] (by simp)) (by simp) HEd.out).mono ?_; rintro e w2 ⟨vd, rfl, hod, hbd⟩; obtain ⟨Ad, cd, ed⟩ := Kd.R_slice hod; subst ed; have HOd := Aside0.mk hod; have HBd := Aside0.mk (below_step (below_alloc (Below.refl _ w1) _) hbd); clear hod hbd) | (go_at_call 10; refine (frisketlaw01_alive.calls true _ rfl).mono ?_; rintro e w3 ⟨rfl, hb3⟩; have HB3 := Aside0.mk hb3; clear hb3) | (go_at_call 13; with_reducible refine (utf_Scalar.calls c false _ HSc.out).mono ?_; rintro e w4 ⟨rfl, ⟨nd4, rfl⟩⟩) | (go_at_call 13; with_reducible refine (utf_Scalar.calls d false _ HSd.out).mono ?_; rintro e w5 ⟨rfl, ⟨nd5, rfl⟩⟩))
  go_ret
  exact ⟨rfl, by repeat (first | exact below_step (below_step HBc.out HBd.out) HB3.out | apply pw_below_drewN)⟩
set_option maxHeartbeats 4000000 in
set_option maxRecDepth 100000 in
theorem order_ny (c d : Int) (w : World) (hc : scalB c = false) (hd : scalB d = true) :
    Calls Try.prog 6 #[.int .i64 c, .int .i64 d] w fun e w' => e = .returned (.bool true) ∧ Below w.heap.size w w' := by
  have HEc := Aside0.mk (enc1_no c hc)
  have HEd := Aside0.mk (enc1_yes d hd)
  have HSc : Aside0 (utf_Scalar.f c = some false) := ⟨by rw [scal_eq, hc]⟩
  have HSd : Aside0 (utf_Scalar.f d = some true) := ⟨by rw [scal_eq, hd]⟩
  clear hc hd
  go_enter Try.func6, Try.ntmps6
  go_wp2_with (first | (go_at_call 11; refine (utf_Encode.calls _ _ [c] _ _ _ (lit_C (enc := Value.int .i64) (h1 := fun _ => rfl) 0 _ 3 (0, 0) [c] (by simp)) (by simp) HEc.out).mono ?_; rintro e w1 ⟨vc, rfl, hoc, hbc⟩; obtain ⟨Ac, cc, ec⟩ := Kd.R_slice hoc; subst ec; have HOc := Aside0.mk hoc; have HBc := Aside0.mk (below_step (below_alloc (Below.refl _ w) _) hbc); clear hoc hbc) | (go_at_call 11; refine (utf_Encode.calls _ _ [d] _ _ _ (lit_C (enc := Value.int .i64) (h1 := fun _ => rfl) 0 _ 3 (0, 0) [d] (by simp)) (by simp) HEd.out).mono ?_; rintro e w2 ⟨vd, rfl, hod, hbd⟩; obtain ⟨Ad, cd, ed⟩ := Kd.R_slice hod; subst ed; have HOd := Aside0.mk hod; have HBd := Aside0.mk (below_step (below_alloc (Below.refl _ w1) _) hbd); clear hod hbd) | (go_at_call 10; refine (frisketlaw01_alive.calls true _ rfl).mono ?_; rintro e w3 ⟨rfl, hb3⟩; have HB3 := Aside0.mk hb3; clear hb3) | (go_at_call 13; with_reducible refine (utf_Scalar.calls c false _ HSc.out).mono ?_; rintro e w4 ⟨rfl, ⟨nd4, rfl⟩⟩) | (go_at_call 13; with_reducible refine (utf_Scalar.calls d true _ HSd.out).mono ?_; rintro e w5 ⟨rfl, ⟨nd5, rfl⟩⟩))
  go_ret
  exact ⟨rfl, by repeat (first | exact below_step (below_step HBc.out HBd.out) HB3.out | apply pw_below_drewN)⟩
set_option maxHeartbeats 4000000 in
set_option maxRecDepth 100000 in
theorem order_yn (c d : Int) (w : World) (hc : scalB c = true) (hd : scalB d = false) :
    Calls Try.prog 6 #[.int .i64 c, .int .i64 d] w fun e w' => e = .returned (.bool true) ∧ Below w.heap.size w w' := by
  have HEc := Aside0.mk (enc1_yes c hc)
  have HEd := Aside0.mk (enc1_no d hd)
  have HSc : Aside0 (utf_Scalar.f c = some true) := ⟨by rw [scal_eq, hc]⟩
  have HSd : Aside0 (utf_Scalar.f d = some false) := ⟨by rw [scal_eq, hd]⟩
  clear hc hd
  go_enter Try.func6, Try.ntmps6
  go_wp2_with (first | (go_at_call 11; refine (utf_Encode.calls _ _ [c] _ _ _ (lit_C (enc := Value.int .i64) (h1 := fun _ => rfl) 0 _ 3 (0, 0) [c] (by simp)) (by simp) HEc.out).mono ?_; rintro e w1 ⟨vc, rfl, hoc, hbc⟩; obtain ⟨Ac, cc, ec⟩ := Kd.R_slice hoc; subst ec; have HOc := Aside0.mk hoc; have HBc := Aside0.mk (below_step (below_alloc (Below.refl _ w) _) hbc); clear hoc hbc) | (go_at_call 11; refine (utf_Encode.calls _ _ [d] _ _ _ (lit_C (enc := Value.int .i64) (h1 := fun _ => rfl) 0 _ 3 (0, 0) [d] (by simp)) (by simp) HEd.out).mono ?_; rintro e w2 ⟨vd, rfl, hod, hbd⟩; obtain ⟨Ad, cd, ed⟩ := Kd.R_slice hod; subst ed; have HOd := Aside0.mk hod; have HBd := Aside0.mk (below_step (below_alloc (Below.refl _ w1) _) hbd); clear hod hbd) | (go_at_call 10; refine (frisketlaw01_alive.calls true _ rfl).mono ?_; rintro e w3 ⟨rfl, hb3⟩; have HB3 := Aside0.mk hb3; clear hb3) | (go_at_call 13; with_reducible refine (utf_Scalar.calls c true _ HSc.out).mono ?_; rintro e w4 ⟨rfl, ⟨nd4, rfl⟩⟩) | (go_at_call 13; with_reducible refine (utf_Scalar.calls d false _ HSd.out).mono ?_; rintro e w5 ⟨rfl, ⟨nd5, rfl⟩⟩))
  go_ret
  exact ⟨rfl, by repeat (first | exact below_step (below_step HBc.out HBd.out) HB3.out | apply pw_below_drewN)⟩
set_option maxHeartbeats 4000000 in
set_option maxRecDepth 100000 in
theorem order_ge (c d : Int) (w : World) (hc : scalB c = true) (hd : scalB d = true) (hcd : d ≤ c) :
    Calls Try.prog 6 #[.int .i64 c, .int .i64 d] w fun e w' => e = .returned (.bool true) ∧ Below w.heap.size w w' := by
  have HEc := Aside0.mk (enc1_yes c hc)
  have HEd := Aside0.mk (enc1_yes d hd)
  have HSc : Aside0 (utf_Scalar.f c = some true) := ⟨by rw [scal_eq, hc]⟩
  have HSd : Aside0 (utf_Scalar.f d = some true) := ⟨by rw [scal_eq, hd]⟩
  have hge : decide (d ≤ c) = true := decide_eq_true hcd
  clear hc hd
  go_enter Try.func6, Try.ntmps6
  go_wp2_with (first | (go_at_call 11; refine (utf_Encode.calls _ _ [c] _ _ _ (lit_C (enc := Value.int .i64) (h1 := fun _ => rfl) 0 _ 3 (0, 0) [c] (by simp)) (by simp) HEc.out).mono ?_; rintro e w1 ⟨vc, rfl, hoc, hbc⟩; obtain ⟨Ac, cc, ec⟩ := Kd.R_slice hoc; subst ec; have HOc := Aside0.mk hoc; have HBc := Aside0.mk (below_step (below_alloc (Below.refl _ w) _) hbc); clear hoc hbc) | (go_at_call 11; refine (utf_Encode.calls _ _ [d] _ _ _ (lit_C (enc := Value.int .i64) (h1 := fun _ => rfl) 0 _ 3 (0, 0) [d] (by simp)) (by simp) HEd.out).mono ?_; rintro e w2 ⟨vd, rfl, hod, hbd⟩; obtain ⟨Ad, cd, ed⟩ := Kd.R_slice hod; subst ed; have HOd := Aside0.mk hod; have HBd := Aside0.mk (below_step (below_alloc (Below.refl _ w1) _) hbd); clear hod hbd) | (go_at_call 10; refine (frisketlaw01_alive.calls true _ rfl).mono ?_; rintro e w3 ⟨rfl, hb3⟩; have HB3 := Aside0.mk hb3; clear hb3) | (go_at_call 13; with_reducible refine (utf_Scalar.calls c true _ HSc.out).mono ?_; rintro e w4 ⟨rfl, ⟨nd4, rfl⟩⟩) | (go_at_call 13; with_reducible refine (utf_Scalar.calls d true _ HSd.out).mono ?_; rintro e w5 ⟨rfl, ⟨nd5, rfl⟩⟩))
  go_ret
  exact ⟨rfl, by repeat (first | exact below_step (below_step HBc.out HBd.out) HB3.out | apply pw_below_drewN)⟩
set_option maxHeartbeats 4000000 in
set_option maxRecDepth 100000 in
theorem order_lt (c d : Int) (w : World) (hc : scalB c = true) (hd : scalB d = true) (hcd : c < d) :
    Calls Try.prog 6 #[.int .i64 c, .int .i64 d] w fun e w' => e = .returned (.bool true) ∧ Below w.heap.size w w' := by
  have HEc := Aside0.mk (enc1_yes c hc)
  have HEd := Aside0.mk (enc1_yes d hd)
  have HSc : Aside0 (utf_Scalar.f c = some true) := ⟨by rw [scal_eq, hc]⟩
  have HSd : Aside0 (utf_Scalar.f d = some true) := ⟨by rw [scal_eq, hd]⟩
  have sc := (scalB_iff c).1 hc
  have sd := (scalB_iff d).1 hd
  obtain ⟨o1, o2, o3⟩ := Pure.order_bytes c d sc.1 hcd sd.2.1
  have b1 := Pure.bytes_byte c sc.1 sc.2.1
  have b2 := Pure.bytes_byte d sd.1 sd.2.1
  have hlt : Op.bytesLess (strOfNums (bytesF c)).toList (strOfNums (bytesF d)).toList = true := Pure.less_str b1 b2 o1
  have hne : ((strOfNums (bytesF c)).toList == (strOfNums ((bytesF d).take (bytesF c).length)).toList) = false := beq_eq_false_iff_ne.2 (fun g => o3 (Pure.str_inj b1 (Pure.all_take b2 _) g))
  have hge : decide (d ≤ c) = false := decide_eq_false (by omega)
  obtain ⟨X, hX⟩ : ∃ X, bytesF c = X := ⟨_, rfl⟩
  obtain ⟨Y, hY⟩ : ∃ Y, bytesF d = Y := ⟨_, rfl⟩
  rw [hX] at HEc hlt hne o2
  rw [hY] at HEd hlt hne o2
  have hle : decide ((X.length : Int) ≤ (Y.length : Int)) = true := decide_eq_true (by omega)
  have hlen := eq_true o2
  have hmin : min (X.length : Int) (Y.length : Int) = (X.length : Int) := by omega
  have O2 := Aside0.mk o2
  clear hc hd sc sd o1 o2 o3 b1 b2 hX hY hcd
  go_enter Try.func6, Try.ntmps6
  go_wp2_with (first | (go_at_call 11; refine (utf_Encode.calls _ _ [c] _ _ _ (lit_C (enc := Value.int .i64) (h1 := fun _ => rfl) 0 _ 3 (0, 0) [c] (by simp)) (by simp) HEc.out).mono ?_; rintro e w1 ⟨vc, rfl, hoc, hbc⟩; obtain ⟨Ac, cc, ec⟩ := Kd.R_slice hoc; subst ec; have HOc := Aside0.mk hoc; have HBc := Aside0.mk (below_step (below_alloc (Below.refl _ w) _) hbc); clear hoc hbc) | (go_at_call 11; refine (utf_Encode.calls _ _ [d] _ _ _ (lit_C (enc := Value.int .i64) (h1 := fun _ => rfl) 0 _ 3 (0, 0) [d] (by simp)) (by simp) HEd.out).mono ?_; rintro e w2 ⟨vd, rfl, hod, hbd⟩; obtain ⟨Ad, cd, ed⟩ := Kd.R_slice hod; subst ed; have HOd := Aside0.mk hod; have HBd := Aside0.mk (below_step (below_alloc (Below.refl _ w1) _) hbd); clear hod hbd))
  have HCX := Aside0.mk (fun W (hW : Below w2.heap.size w2 W) => (Kd.R_reads' (Kd.R_below (Kd.R_below HOc.out HBd.out) hW)).2.2)
  have HCY := Aside0.mk (fun W (hW : Below w2.heap.size w2 W) => (Kd.R_reads' (Kd.R_below HOd.out hW)).2.2)
  have k1 := eq_true (Kd.R_reads' HOc.out).2.1
  have k2 := (Kd.R_reads' HOd.out).2.1
  have k3 : (X.length ≤ cd) = True := eq_true (Nat.le_trans O2.out k2)
  replace k2 := eq_true k2
  have SS : ∀ W, Below w2.heap.size w2 W → ((convert 24 9 (.slice Ac X.length cc)).run Try.prog W = .ok (.string (strOfNums X)) W) ∧ ((convert 24 9 (.slice Ad Y.length cd)).run Try.prog W = .ok (.string (strOfNums Y)) W) ∧ ((convert 24 9 (.slice Ad X.length cd)).run Try.prog W = .ok (.string (strOfNums (Y.take X.length))) W) := fun W hW => ⟨Kd.C_string (P := Try.prog) Try.underlying24 Try.underlying5 Try.underlying9 (HCX.out W hW), Kd.C_string (P := Try.prog) Try.underlying24 Try.underlying5 Try.underlying9 (HCY.out W hW), by
    have h9 := Kd.C_string (P := Try.prog) (c := cd) Try.underlying24 Try.underlying5 Try.underlying9 (Kd.C_take (HCY.out W hW) O2.out)
    rw [List.length_take, show min X.length Y.length = X.length by (have := O2.out; omega)] at h9
    exact h9⟩
  have HBW : Aside0 (Below w2.heap.size w2 w2.drew) := ⟨below_drew1 (Below.refl _ w2)⟩
  refine start_ (n := 27) (S := fun W => ((convert 24 9 (.slice Ac X.length cc)).run Try.prog W = .ok (.string (strOfNums X)) W) ∧ ((convert 24 9 (.slice Ad Y.length cd)).run Try.prog W = .ok (.string (strOfNums Y)) W) ∧ ((convert 24 9 (.slice Ad X.length cd)).run Try.prog W = .ok (.string (strOfNums (Y.take X.length))) W)) (ds := []) #[false, false, false, false, false, false, false, false, false, false, false, false, false, false, false, false, false, false, false, false, false, false, false, false, false, false, false] (by kernel_rfl) rfl rfl (SS _ (below_drew1 (Below.refl _ w2))) (fun hHeld => ?_)
  generalize hg : w2.drew = w10 at HBW hHeld ⊢
  refine one_ (i := 0) (N := some 53) #[true, false, false, false, false, false, false, false, false, false, false, false, false, false, false, false, false, false, false, false, false, false, false, false, false, false, false] rfl rfl (by kernel_rfl) (by decide) (fun K hK => ?_)
  refine goes_ Try.func10 (by kernel_rfl) rfl #[] (by rfl) rfl rfl (by simp) ?_
  refine (frisketlaw01_alive.calls true _ rfl).mono ?_
  rintro e w3 ⟨rfl, hb3⟩
  refine ⟨_, rfl, ?_⟩
  have HB3 := Aside0.mk (HBW.out.trans (hb3.mono HBW.out.size))
  have SS3 := SS w3 HB3.out
  refine hK.out _ _ SS3 (fun hHeld2 => ?_)
  clear hK K
  simp only [Act.put, List.getElem_toArray, List.getElem_cons_succ, List.getElem_cons_zero, List.setIfInBounds_toArray, List.set_cons_zero, List.set_cons_succ]
  refine pure_ (i := 1) (N := some 54) (v := ?_) (a' := ?_) #[true, true, false, false, false, false, false, false, false, false, false, false, false, false, false, false, false, false, false, false, false, false, false, false, false, false, false] rfl rfl (by kernel_rfl) (fun _ _ _ h => h) (Or.inl ⟨by rfl, ?_⟩) ?_ ?_
  rotate_left
  · intro w'
    go_simp
    with_reducible rfl
  rotate_left
  · simp only [Act.put, List.setIfInBounds_toArray, List.set_cons_zero, List.set_cons_succ, i64_w, i32_w]
    rfl
  refine pure_ (i := 2) (N := some 55) (v := ?_) (a' := ?_) #[true, true, true, false, false, false, false, false, false, false, false, false, false, false, false, false, false, false, false, false, false, false, false, false, false, false, false] rfl rfl (by kernel_rfl) (fun _ _ _ h => h) (Or.inl ⟨by rfl, ?_⟩) ?_ ?_
  rotate_left
  · intro w'
    go_simp
    with_reducible rfl
  rotate_left
  · simp only [Act.put, List.setIfInBounds_toArray, List.set_cons_zero, List.set_cons_succ, i64_w, i32_w]
    rfl
  refine take_ (i := 3) (N := some 56) (v := ?_) (a' := ?_) #[true, true, true, true, false, false, false, false, false, false, false, false, false, false, false, false, false, false, false, false, false, false, false, false, false, false, false] rfl rfl (by kernel_rfl) (fun _ _ _ h => h) (Or.inl ⟨by rfl, ?_⟩) SS3 ?_ ?_
  rotate_left
  · rintro w' ⟨s0, s1, s2⟩
    go_simp
    with_reducible rfl
  rotate_left
  · simp only [Act.put, List.setIfInBounds_toArray, List.set_cons_zero, List.set_cons_succ, i64_w, i32_w]
    rfl
  refine pure_ (i := 4) (N := some 57) (v := ?_) (a' := ?_) #[true, true, true, true, true, false, false, false, false, false, false, false, false, false, false, false, false, false, false, false, false, false, false, false, false, false, false] rfl rfl (by kernel_rfl) (fun _ _ _ h => h) (Or.inl ⟨by rfl, ?_⟩) ?_ ?_
  rotate_left
  · intro w'
    go_simp
    with_reducible rfl
  rotate_left
  · simp only [Act.put, List.setIfInBounds_toArray, List.set_cons_zero, List.set_cons_succ, i64_w, i32_w]
    rfl
  refine take_ (i := 5) (N := some 58) (v := ?_) (a' := ?_) #[true, true, true, true, true, true, false, false, false, false, false, false, false, false, false, false, false, false, false, false, false, false, false, false, false, false, false] rfl rfl (by kernel_rfl) (fun _ _ _ h => h) (Or.inl ⟨by rfl, ?_⟩) SS3 ?_ ?_
  rotate_left
  · rintro w' ⟨s0, s1, s2⟩
    go_simp
    with_reducible rfl
  rotate_left
  · simp only [Act.put, List.setIfInBounds_toArray, List.set_cons_zero, List.set_cons_succ, i64_w, i32_w]
    rfl
  refine pure_ (i := 6) (N := some 59) (v := ?_) (a' := ?_) #[true, true, true, true, true, true, true, false, false, false, false, false, false, false, false, false, false, false, false, false, false, false, false, false, false, false, false] rfl rfl (by kernel_rfl) (fun _ _ _ h => h) (Or.inl ⟨by rfl, ?_⟩) ?_ ?_
  rotate_left
  · intro w'
    go_simp
    with_reducible rfl
  rotate_left
  · simp only [Act.put, List.setIfInBounds_toArray, List.set_cons_zero, List.set_cons_succ, i64_w, i32_w]
    rfl
  refine pure_ (i := 7) (N := some 60) (v := ?_) (a' := ?_) #[true, true, true, true, true, true, true, true, false, false, false, false, false, false, false, false, false, false, false, false, false, false, false, false, false, false, false] rfl rfl (by kernel_rfl) (fun _ _ _ h => h) (Or.inl ⟨by rfl, ?_⟩) ?_ ?_
  rotate_left
  · intro w'
    go_simp
    with_reducible rfl
  rotate_left
  · simp only [Act.put, List.setIfInBounds_toArray, List.set_cons_zero, List.set_cons_succ, i64_w, i32_w]
    rfl
  refine pure_ (i := 8) (N := some 61) (v := ?_) (a' := ?_) #[true, true, true, true, true, true, true, true, true, false, false, false, false, false, false, false, false, false, false, false, false, false, false, false, false, false, false] rfl rfl (by kernel_rfl) (fun _ _ _ h => h) (Or.inl ⟨by rfl, ?_⟩) ?_ ?_
  rotate_left
  · intro w'
    go_simp
    with_reducible rfl
  rotate_left
  · simp only [Act.put, List.setIfInBounds_toArray, List.set_cons_zero, List.set_cons_succ, i64_w, i32_w]
    rfl
  refine pure_ (i := 9) (N := some 62) (v := ?_) (a' := ?_) #[true, true, true, true, true, true, true, true, true, true, false, false, false, false, false, false, false, false, false, false, false, false, false, false, false, false, false] rfl rfl (by kernel_rfl) (fun _ _ _ h => h) (Or.inl ⟨by rfl, ?_⟩) ?_ ?_
  rotate_left
  · intro w'
    go_simp
    with_reducible rfl
  rotate_left
  · simp only [Act.put, List.setIfInBounds_toArray, List.set_cons_zero, List.set_cons_succ, i64_w, i32_w]
    rfl
  refine pure_ (i := 10) (N := some 63) (v := ?_) (a' := ?_) #[true, true, true, true, true, true, true, true, true, true, true, false, false, false, false, false, false, false, false, false, false, false, false, false, false, false, false] rfl rfl (by kernel_rfl) (fun _ _ _ h => h) (Or.inl ⟨by rfl, ?_⟩) ?_ ?_
  rotate_left
  · intro w'
    go_simp
    with_reducible rfl
  rotate_left
  · simp only [Act.put, List.setIfInBounds_toArray, List.set_cons_zero, List.set_cons_succ, i64_w, i32_w]
    rfl
  refine pure_ (i := 11) (N := some 64) (v := ?_) (a' := ?_) #[true, true, true, true, true, true, true, true, true, true, true, true, false, false, false, false, false, false, false, false, false, false, false, false, false, false, false] rfl rfl (by kernel_rfl) (fun _ _ _ h => h) (Or.inl ⟨by rfl, ?_⟩) ?_ ?_
  rotate_left
  · intro w'
    go_simp
    with_reducible rfl
  rotate_left
  · simp only [Act.put, List.setIfInBounds_toArray, List.set_cons_zero, List.set_cons_succ, i64_w, i32_w]
    rfl
  refine pure_ (i := 12) (N := some 65) (v := ?_) (a' := ?_) #[true, true, true, true, true, true, true, true, true, true, true, true, true, false, false, false, false, false, false, false, false, false, false, false, false, false, false] rfl rfl (by kernel_rfl) (fun _ _ _ h => h) (Or.inl ⟨by rfl, ?_⟩) ?_ ?_
  rotate_left
  · intro w'
    go_simp
    with_reducible rfl
  rotate_left
  · simp only [Act.put, List.setIfInBounds_toArray, List.set_cons_zero, List.set_cons_succ, i64_w, i32_w]
    rfl
  refine pure_ (i := 13) (N := some 66) (v := ?_) (a' := ?_) #[true, true, true, true, true, true, true, true, true, true, true, true, true, true, false, false, false, false, false, false, false, false, false, false, false, false, false] rfl rfl (by kernel_rfl) (fun _ _ _ h => h) (Or.inl ⟨by rfl, ?_⟩) ?_ ?_
  rotate_left
  · intro w'
    go_simp
    with_reducible rfl
  rotate_left
  · simp only [Act.put, List.setIfInBounds_toArray, List.set_cons_zero, List.set_cons_succ, i64_w, i32_w]
    rfl
  refine pure_ (i := 14) (N := some 67) (v := ?_) (a' := ?_) #[true, true, true, true, true, true, true, true, true, true, true, true, true, true, true, false, false, false, false, false, false, false, false, false, false, false, false] rfl rfl (by kernel_rfl) (fun _ _ _ h => h) (Or.inl ⟨by rfl, ?_⟩) ?_ ?_
  rotate_left
  · intro w'
    go_simp
    with_reducible rfl
  rotate_left
  · simp only [Act.put, List.setIfInBounds_toArray, List.set_cons_zero, List.set_cons_succ, i64_w, i32_w]
    rfl
  refine pure_ (i := 15) (N := some 68) (v := ?_) (a' := ?_) #[true, true, true, true, true, true, true, true, true, true, true, true, true, true, true, true, false, false, false, false, false, false, false, false, false, false, false] rfl rfl (by kernel_rfl) (fun _ _ _ h => h) (Or.inl ⟨by rfl, ?_⟩) ?_ ?_
  rotate_left
  · intro w'
    go_simp
    with_reducible rfl
  rotate_left
  · simp only [Act.put, List.setIfInBounds_toArray, List.set_cons_zero, List.set_cons_succ, i64_w, i32_w]
    rfl
  refine pure_ (i := 16) (N := some 69) (v := ?_) (a' := ?_) #[true, true, true, true, true, true, true, true, true, true, true, true, true, true, true, true, true, false, false, false, false, false, false, false, false, false, false] rfl rfl (by kernel_rfl) (fun _ _ _ h => h) (Or.inl ⟨by rfl, ?_⟩) ?_ ?_
  rotate_left
  · intro w'
    go_simp
    with_reducible rfl
  rotate_left
  · simp only [Act.put, List.setIfInBounds_toArray, List.set_cons_zero, List.set_cons_succ, i64_w, i32_w]
    rfl
  refine pure_ (i := 17) (N := some 70) (v := ?_) (a' := ?_) #[true, true, true, true, true, true, true, true, true, true, true, true, true, true, true, true, true, true, false, false, false, false, false, false, false, false, false] rfl rfl (by kernel_rfl) (fun _ _ _ h => h) (Or.inl ⟨by rfl, ?_⟩) ?_ ?_
  rotate_left
  · intro w'
    go_simp
    with_reducible rfl
  rotate_left
  · simp only [Act.put, List.setIfInBounds_toArray, List.set_cons_zero, List.set_cons_succ, i64_w, i32_w]
    rfl
  refine pure_ (i := 18) (N := some 71) (v := ?_) (a' := ?_) #[true, true, true, true, true, true, true, true, true, true, true, true, true, true, true, true, true, true, true, false, false, false, false, false, false, false, false] rfl rfl (by kernel_rfl) (fun _ _ _ h => h) (Or.inl ⟨by rfl, ?_⟩) ?_ ?_
  rotate_left
  · intro w'
    go_simp
    with_reducible rfl
  rotate_left
  · simp only [Act.put, List.setIfInBounds_toArray, List.set_cons_zero, List.set_cons_succ, i64_w, i32_w]
    rfl
  refine take_ (i := 19) (N := some 72) (v := ?_) (a' := ?_) #[true, true, true, true, true, true, true, true, true, true, true, true, true, true, true, true, true, true, true, true, false, false, false, false, false, false, false] rfl rfl (by kernel_rfl) (fun _ _ _ h => h) (Or.inl ⟨by rfl, ?_⟩) SS3 ?_ ?_
  rotate_left
  · rintro w' ⟨s0, s1, s2⟩
    go_simp
    with_reducible rfl
  rotate_left
  · simp only [Act.put, List.setIfInBounds_toArray, List.set_cons_zero, List.set_cons_succ, i64_w, i32_w]
    rfl
  refine pure_ (i := 20) (N := some 73) (v := ?_) (a' := ?_) #[true, true, true, true, true, true, true, true, true, true, true, true, true, true, true, true, true, true, true, true, true, false, false, false, false, false, false] rfl rfl (by kernel_rfl) (fun _ _ _ h => h) (Or.inl ⟨by rfl, ?_⟩) ?_ ?_
  rotate_left
  · intro w'
    go_simp
    with_reducible rfl
  rotate_left
  · simp only [Act.put, List.setIfInBounds_toArray, List.set_cons_zero, List.set_cons_succ, i64_w, i32_w]
    rfl
  refine pure_ (i := 21) (N := some 74) (v := ?_) (a' := ?_) #[true, true, true, true, true, true, true, true, true, true, true, true, true, true, true, true, true, true, true, true, true, true, false, false, false, false, false] rfl rfl (by kernel_rfl) (fun _ _ _ h => h) (Or.inl ⟨by rfl, ?_⟩) ?_ ?_
  rotate_left
  · intro w'
    go_simp
    with_reducible rfl
  rotate_left
  · simp only [Act.put, List.setIfInBounds_toArray, List.set_cons_zero, List.set_cons_succ, i64_w, i32_w]
    rfl
  refine pure_ (i := 22) (N := some 75) (v := ?_) (a' := ?_) #[true, true, true, true, true, true, true, true, true, true, true, true, true, true, true, true, true, true, true, true, true, true, true, false, false, false, false] rfl rfl (by kernel_rfl) (fun _ _ _ h => h) (Or.inl ⟨by rfl, ?_⟩) ?_ ?_
  rotate_left
  · intro w'
    go_simp
    with_reducible rfl
  rotate_left
  · simp only [Act.put, List.setIfInBounds_toArray, List.set_cons_zero, List.set_cons_succ, i64_w, i32_w]
    rfl
  refine take_ (i := 23) (N := some 76) (v := ?_) (a' := ?_) #[true, true, true, true, true, true, true, true, true, true, true, true, true, true, true, true, true, true, true, true, true, true, true, true, false, false, false] rfl rfl (by kernel_rfl) (fun _ _ _ h => h) (Or.inl ⟨by rfl, ?_⟩) SS3 ?_ ?_
  rotate_left
  · rintro w' ⟨s0, s1, s2⟩
    go_simp
    with_reducible rfl
  rotate_left
  · simp only [Act.put, List.setIfInBounds_toArray, List.set_cons_zero, List.set_cons_succ, i64_w, i32_w]
    rfl
  refine pure_ (i := 24) (N := some 77) (v := ?_) (a' := ?_) #[true, true, true, true, true, true, true, true, true, true, true, true, true, true, true, true, true, true, true, true, true, true, true, true, true, false, false] rfl rfl (by kernel_rfl) (fun _ _ _ h => h) (Or.inl ⟨by rfl, ?_⟩) ?_ ?_
  rotate_left
  · intro w'
    go_simp
    with_reducible rfl
  rotate_left
  · simp only [Act.put, List.setIfInBounds_toArray, List.set_cons_zero, List.set_cons_succ, i64_w, i32_w]
    rfl
  refine pure_ (i := 25) (N := some 78) (v := ?_) (a' := ?_) #[true, true, true, true, true, true, true, true, true, true, true, true, true, true, true, true, true, true, true, true, true, true, true, true, true, true, false] rfl rfl (by kernel_rfl) (fun _ _ _ h => h) (Or.inl ⟨by rfl, ?_⟩) ?_ ?_
  rotate_left
  · intro w'
    go_simp
    with_reducible rfl
  rotate_left
  · simp only [Act.put, List.setIfInBounds_toArray, List.set_cons_zero, List.set_cons_succ, i64_w, i32_w]
    rfl
  refine pure_ (i := 26) (N := some 4) (v := ?_) (a' := ?_) #[true, true, true, true, true, true, true, true, true, true, true, true, true, true, true, true, true, true, true, true, true, true, true, true, true, true, true] rfl rfl (by kernel_rfl) (fun _ _ _ h => h) (Or.inl ⟨by rfl, ?_⟩) ?_ ?_
  rotate_left
  · intro w'
    go_simp
    with_reducible rfl
  rotate_left
  · simp only [Act.put, List.setIfInBounds_toArray, List.set_cons_zero, List.set_cons_succ, i64_w, i32_w]
    rfl
  refine done_ (by kernel_rfl) ?_
  go_wp2
  go_ret
  exact ⟨rfl, below_step (below_step HBc.out HBd.out) HB3.out⟩
theorem frisketlaw01_UtfOrder.calls (a0 : Int) (a1 : Int) (r : Bool) (w : World) (hrt : r = true) (h : frisketlaw01_UtfOrder.f a0 a1 = some r) :
    Calls Try.prog 6 #[.int .i64 a0, .int .i64 a1] w fun e w' => e = .returned (.bool r) ∧ Below w.heap.size w w' := by
  subst hrt
  cases hc : scalB a0 with
  | false =>
    cases hd : scalB a1 with
    | false => exact order_nn a0 a1 w hc hd
    | true => exact order_ny a0 a1 w hc hd
  | true =>
    cases hd : scalB a1 with
    | false => exact order_yn a0 a1 w hc hd
    | true =>
      by_cases g : a0 < a1
      · exact order_lt a0 a1 w hc hd g
      · exact order_ge a0 a1 w hc hd (by omega)
end Go.Proofs.Ytijikaihmaganaa.P
