/- Written by wip/tools/gprint.py of this repo over the translation: Lean functions that answer as the Go functions named below do, and the proof of it; the conditions stand in each theorem. -/
import Derived.Test.YtdhknnaholaohaaP0
import Derived.Test.YtdhknnaholaohaaP11
import Derived.Test.YtdhknnaholaohaaP12
import Derived.Test.YtdhknnaholaohaaP21
import Derived.Test.YtdhknnaholaohaaP22
import Derived.Test.YtdhknnaholaohaaHRule
namespace Go.Proofs.Ytdhknnaholaohaa.P
open Go.RowKit Go.Proofs.YtdhknnaholaohaaW.PrintWords Go.Proofs.YtdhknnaholaohaaW.PrintLast Go.Proofs.YtdhknnaholaohaaW.PrintMore
attribute [local go_sem] max2_int min2_int max_two min_two max_three min_three max_four min_four   -- for this text's walks alone
set_option linter.unusedVariables false
set_option linter.unusedSimpArgs false

/-! ### frisketlaw10_WeakRules: function 5 -/
def frisketlaw10_WeakRules.f (k : Nat) (l0 : List Int) (a1 : Int) (a2 : Int) : Option (Bool) := if (l0.length : Int) > 150 then ((frisketlaw10_alive.f k).bind fun t241 => (some t241)) else ((some (([] : List Int) : List Int)).bind fun y242 => (if y242.length + l0.length < 17592186044416 then ((weak_Rule.f a2 l0 a1).bind fun bt248 => ((frisketref10_Rule.f k a2 l0 a1).bind fun bt252 => ((weak_All.f l0 a1).bind fun bt256 => ((frisketref10_All.f k l0 a1).bind fun bt260 => ((frisketlaw08_Same.f k bt248.1 bt252.1).bind fun t264 => ((frisketlaw08_Same.f k bt256.1 bt260.1).bind fun t265 => ((frisketlaw08_Same.f k l0 (y242 ++ l0)).bind fun t266 => ((frisketlaw10_alive.f k).bind fun t267 => (if t267 = true then (if t264 = true then (if bt248.2 = bt252.2 then (if t265 = true then (if bt256.2 = bt260.2 then (some t266) else (some false)) else (some false)) else (some false)) else (some false)) else (some false)))))))))) else (none)))
theorem frisketlaw10_WeakRules.mono : ∀ a0 a1 a2 k, LeO (frisketlaw10_WeakRules.f k a0 a1 a2) (frisketlaw10_WeakRules.f (k + 1) a0 a1 a2) := by
  intro a0 a1 a2 k
  unfold frisketlaw10_WeakRules.f
  repeat' first
      | (with_reducible exact frisketlaw08_Same.mono _ _ _)
      | (with_reducible exact frisketlaw10_alive.mono _)
      | (with_reducible exact frisketref10_All.mono _ _ _)
      | (with_reducible exact frisketref10_Rule.mono _ _ _ _)
      | (with_reducible exact LeO.refl _)
      | (with_reducible exact LeO.none _)
      | (with_reducible refine LeO.ite ?_ ?_)
      | (with_reducible refine LeO.bind ?_ (fun _ => ?_))
      | exact frisketlaw08_Same.mono _ _ _
      | exact frisketlaw10_alive.mono _
      | exact frisketref10_All.mono _ _ _
      | exact frisketref10_Rule.mono _ _ _ _
      | exact LeO.none _
      | refine LeO.ite ?_ ?_
      | refine LeO.bind ?_ (fun _ => ?_)
set_option maxHeartbeats 8000000 in
set_option maxRecDepth 100000 in
theorem frisketlaw10_WeakRules.calls (k : Nat) (A0 : Option Addr) (c0 : Nat) (l0 : List Int) (a1 : Int) (a2 : Int) (r : Bool) (w : World) (hr0 : Kd.C (Kd.int .i64) w A0 l0.length l0) (hc0 : l0.length ≤ c0) (hrt : r = true) (h : frisketlaw10_WeakRules.f k l0 a1 a2 = some r) :
    Calls Try.prog 5 #[.slice A0 l0.length c0, .int .i64 a1, .int .i64 a2] w fun e w' => e = .returned (.bool r) ∧ Below w.heap.size w w' := by
  have HR0 := Aside0.mk hr0
  have HC0 := Aside0.mk hc0
  clear hr0 hc0
  have HB := Aside0.mk (Below.refl w.heap.size w)
  have HRT := Aside0.mk hrt
  clear hrt
  have H : (if (l0.length : Int) > 150 then ((frisketlaw10_alive.f k).bind fun t241 => (some t241)) else ((some (([] : List Int) : List Int)).bind fun y242 => (if y242.length + l0.length < 17592186044416 then ((weak_Rule.f a2 l0 a1).bind fun bt248 => ((frisketref10_Rule.f k a2 l0 a1).bind fun bt252 => ((weak_All.f l0 a1).bind fun bt256 => ((frisketref10_All.f k l0 a1).bind fun bt260 => ((frisketlaw08_Same.f k bt248.1 bt252.1).bind fun t264 => ((frisketlaw08_Same.f k bt256.1 bt260.1).bind fun t265 => ((frisketlaw08_Same.f k l0 (y242 ++ l0)).bind fun t266 => ((frisketlaw10_alive.f k).bind fun t267 => (if t267 = true then (if t264 = true then (if bt248.2 = bt252.2 then (if t265 = true then (if bt256.2 = bt260.2 then (some t266) else (some false)) else (some false)) else (some false)) else (some false)) else (some false)))))))))) else (none)))) = some r := h
  clear h
  by_cases c4 : (l0.length : Int) > 150
  · rw [if_pos c4] at H
    have c4b0 : decide (150 < (l0.length : Int)) = true := decide_eq_true c4
    have c4b1 : decide (150 < l0.length) = true := decide_eq_true (by omega)
    clear c4
    replace H := Option.bind_eq_some_iff.mp H
    obtain ⟨t241, A50, H⟩ := H
    replace H : (some t241) = some r := H
    have A5 := Aside0.mk A50
    clear A50
    obtain rfl := Option.some.inj H
    go_enter Try.func5, Try.ntmps5
    go_wp2_with (first | ((with_reducible refine gate_callee (f := 7) rfl ?_); refine goesL_ (some 22) rfl rfl Try.func7 (by kernel_rfl) rfl #[] rfl (by (try simp only [List.map_toArray, List.map_cons, List.map_nil]); first | done | rfl | (simp only [List.length_drop, List.length_take]; rfl)) ?_; (with_reducible refine (frisketlaw10_alive.calls k  t241 _ A5.out).mono ?_); rintro e w6 ⟨rfl, hb⟩; refine ⟨_, rfl, ?_⟩; have n0_ := Aside0.mk (below_step (by repeat (first | (with_reducible first | exact HB.out | apply below_alloc | apply pw_below_drewN | apply below_drew1) | exact HB.out)) hb); clear HB; have HB := n0_; clear n0_; (try clear hb); (try clear hb2); (try clear hk); (try clear hi)))
    go_ret
    exact ⟨by first | rfl | (simp [errW_none, errW_some] <;> rfl) | (simp [*, errW_none, errW_some] <;> rfl), by repeat (first | (with_reducible first | exact HB.out | apply below_alloc | apply pw_below_drewN | apply below_drew1) | exact HB.out)⟩
  · rw [if_neg c4] at H
    have c4b0 : decide (150 < (l0.length : Int)) = false := decide_eq_false c4
    have c4b1 : decide (150 < l0.length) = false := decide_eq_false (by omega)
    clear c4
    obtain ⟨y242, hy242⟩ : ∃ y_ : List Int, y_ = (([] : List Int)) := ⟨_, rfl⟩
    replace H : (if y242.length + l0.length < 17592186044416 then ((weak_Rule.f a2 l0 a1).bind fun bt248 => ((frisketref10_Rule.f k a2 l0 a1).bind fun bt252 => ((weak_All.f l0 a1).bind fun bt256 => ((frisketref10_All.f k l0 a1).bind fun bt260 => ((frisketlaw08_Same.f k bt248.1 bt252.1).bind fun t264 => ((frisketlaw08_Same.f k bt256.1 bt260.1).bind fun t265 => ((frisketlaw08_Same.f k l0 (y242 ++ l0)).bind fun t266 => ((frisketlaw10_alive.f k).bind fun t267 => (if t267 = true then (if t264 = true then (if bt248.2 = bt252.2 then (if t265 = true then (if bt256.2 = bt260.2 then (some t266) else (some false)) else (some false)) else (some false)) else (some false)) else (some false)))))))))) else (none)) = some r := by first | (rw [hy242]; with_reducible exact H) | (have H2_ := (Option.bind_some _ _).symm.trans H; rw [hy242]; with_reducible exact H2_) | (have H2_ := (Option.bind_some _ _).symm.trans H; with_reducible exact H2_) | with_reducible exact H | (rw [hy242]; exact H) | exact H
    have Ny242 := Aside0.mk hy242
    clear hy242
    by_cases c7 : y242.length + l0.length < 17592186044416
    · rw [if_pos c7] at H
      have LMc7 := Aside0.mk c7
      clear c7
      obtain ⟨y245, hy245⟩ : ∃ y_ : List Int, y_ = (y242 ++ l0) := ⟨_, rfl⟩
      replace H : ((weak_Rule.f a2 l0 a1).bind fun bt248 => ((frisketref10_Rule.f k a2 l0 a1).bind fun bt252 => ((weak_All.f l0 a1).bind fun bt256 => ((frisketref10_All.f k l0 a1).bind fun bt260 => ((frisketlaw08_Same.f k bt248.1 bt252.1).bind fun t264 => ((frisketlaw08_Same.f k bt256.1 bt260.1).bind fun t265 => ((frisketlaw08_Same.f k l0 y245).bind fun t266 => ((frisketlaw10_alive.f k).bind fun t267 => (if t267 = true then (if t264 = true then (if bt248.2 = bt252.2 then (if t265 = true then (if bt256.2 = bt260.2 then (some t266) else (some false)) else (some false)) else (some false)) else (some false)) else (some false)))))))))) = some r := by first | (rw [hy245]; with_reducible exact H) | (have H2_ := (Option.bind_some _ _).symm.trans H; rw [hy245]; with_reducible exact H2_) | (have H2_ := (Option.bind_some _ _).symm.trans H; with_reducible exact H2_) | with_reducible exact H | (rw [hy245]; exact H) | exact H
      have Ny245 := Aside0.mk hy245
      clear hy245
      replace H := Option.bind_eq_some_iff.mp H
      obtain ⟨⟨t248, t249⟩, A80, H⟩ := H
      replace H : ((frisketref10_Rule.f k a2 l0 a1).bind fun bt252 => ((weak_All.f l0 a1).bind fun bt256 => ((frisketref10_All.f k l0 a1).bind fun bt260 => ((frisketlaw08_Same.f k t248 bt252.1).bind fun t264 => ((frisketlaw08_Same.f k bt256.1 bt260.1).bind fun t265 => ((frisketlaw08_Same.f k l0 y245).bind fun t266 => ((frisketlaw10_alive.f k).bind fun t267 => (if t267 = true then (if t264 = true then (if t249 = bt252.2 then (if t265 = true then (if bt256.2 = bt260.2 then (some t266) else (some false)) else (some false)) else (some false)) else (some false)) else (some false))))))))) = some r := H
      have A8 := Aside0.mk A80
      clear A80
      replace H := Option.bind_eq_some_iff.mp H
      obtain ⟨⟨t252, t253⟩, A90, H⟩ := H
      replace H : ((weak_All.f l0 a1).bind fun bt256 => ((frisketref10_All.f k l0 a1).bind fun bt260 => ((frisketlaw08_Same.f k t248 t252).bind fun t264 => ((frisketlaw08_Same.f k bt256.1 bt260.1).bind fun t265 => ((frisketlaw08_Same.f k l0 y245).bind fun t266 => ((frisketlaw10_alive.f k).bind fun t267 => (if t267 = true then (if t264 = true then (if t249 = t253 then (if t265 = true then (if bt256.2 = bt260.2 then (some t266) else (some false)) else (some false)) else (some false)) else (some false)) else (some false)))))))) = some r := H
      have A9 := Aside0.mk A90
      clear A90
      replace H := Option.bind_eq_some_iff.mp H
      obtain ⟨⟨t256, t257⟩, A100, H⟩ := H
      replace H : ((frisketref10_All.f k l0 a1).bind fun bt260 => ((frisketlaw08_Same.f k t248 t252).bind fun t264 => ((frisketlaw08_Same.f k t256 bt260.1).bind fun t265 => ((frisketlaw08_Same.f k l0 y245).bind fun t266 => ((frisketlaw10_alive.f k).bind fun t267 => (if t267 = true then (if t264 = true then (if t249 = t253 then (if t265 = true then (if t257 = bt260.2 then (some t266) else (some false)) else (some false)) else (some false)) else (some false)) else (some false))))))) = some r := H
      have A10 := Aside0.mk A100
      clear A100
      replace H := Option.bind_eq_some_iff.mp H
      obtain ⟨⟨t260, t263⟩, A110, H⟩ := H
      replace H : ((frisketlaw08_Same.f k t248 t252).bind fun t264 => ((frisketlaw08_Same.f k t256 t260).bind fun t265 => ((frisketlaw08_Same.f k l0 y245).bind fun t266 => ((frisketlaw10_alive.f k).bind fun t267 => (if t267 = true then (if t264 = true then (if t249 = t253 then (if t265 = true then (if t257 = t263 then (some t266) else (some false)) else (some false)) else (some false)) else (some false)) else (some false)))))) = some r := H
      have A11 := Aside0.mk A110
      clear A110
      replace H := Option.bind_eq_some_iff.mp H
      obtain ⟨t264, A120, H⟩ := H
      replace H : ((frisketlaw08_Same.f k t256 t260).bind fun t265 => ((frisketlaw08_Same.f k l0 y245).bind fun t266 => ((frisketlaw10_alive.f k).bind fun t267 => (if t267 = true then (if t264 = true then (if t249 = t253 then (if t265 = true then (if t257 = t263 then (some t266) else (some false)) else (some false)) else (some false)) else (some false)) else (some false))))) = some r := H
      have A12 := Aside0.mk A120
      clear A120
      replace H := Option.bind_eq_some_iff.mp H
      obtain ⟨t265, A130, H⟩ := H
      replace H : ((frisketlaw08_Same.f k l0 y245).bind fun t266 => ((frisketlaw10_alive.f k).bind fun t267 => (if t267 = true then (if t264 = true then (if t249 = t253 then (if t265 = true then (if t257 = t263 then (some t266) else (some false)) else (some false)) else (some false)) else (some false)) else (some false)))) = some r := H
      have A13 := Aside0.mk A130
      clear A130
      replace H := Option.bind_eq_some_iff.mp H
      obtain ⟨t266, A140, H⟩ := H
      replace H : ((frisketlaw10_alive.f k).bind fun t267 => (if t267 = true then (if t264 = true then (if t249 = t253 then (if t265 = true then (if t257 = t263 then (some t266) else (some false)) else (some false)) else (some false)) else (some false)) else (some false))) = some r := H
      have A14 := Aside0.mk A140
      clear A140
      replace H := Option.bind_eq_some_iff.mp H
      obtain ⟨t267, A150, H⟩ := H
      replace H : (if t267 = true then (if t264 = true then (if t249 = t253 then (if t265 = true then (if t257 = t263 then (some t266) else (some false)) else (some false)) else (some false)) else (some false)) else (some false)) = some r := H
      have A15 := Aside0.mk A150
      clear A150
      by_cases c16 : t267 = true
      · subst c16
        have H1 : (if t264 = true then (if t249 = t253 then (if t265 = true then (if t257 = t263 then (some t266) else (some false)) else (some false)) else (some false)) else (some false)) = some r := by rw [if_pos rfl] at H; exact H
        clear H
        have H := H1
        clear H1
        by_cases c17 : t264 = true
        · subst c17
          have H1 : (if t249 = t253 then (if t265 = true then (if t257 = t263 then (some t266) else (some false)) else (some false)) else (some false)) = some r := by rw [if_pos rfl] at H; exact H
          clear H
          have H := H1
          clear H1
          by_cases c18 : t249 = t253
          · rw [if_pos c18] at H
            have c18b0 : (t249 == t253) = true := beq_iff_eq.mpr c18
            have c18b1 : (t249 != t253) = false := bne_eq_false_iff_eq.mpr c18
            clear c18
            by_cases c19 : t265 = true
            · subst c19
              have H1 : (if t257 = t263 then (some t266) else (some false)) = some r := by rw [if_pos rfl] at H; exact H
              clear H
              have H := H1
              clear H1
              by_cases c20 : t257 = t263
              · rw [if_pos c20] at H
                have c20b0 : (t257 == t263) = true := beq_iff_eq.mpr c20
                have c20b1 : (t257 != t263) = false := bne_eq_false_iff_eq.mpr c20
                clear c20
                obtain rfl := Option.some.inj H
                go_enter Try.func5, Try.ntmps5
                go_wp2_with (first | ((with_reducible refine gate_dst (N := 23) rfl ?_); refine Kd.R_lit (Kd.int .i64) _ 27 ?hg (N := 23) ?hd (xs := ([] : List Int)) (inner := []) (ok := fun _ => True) (okp := fun _ => True) ?hr ?hp (fun _ hk => hk) trivial (Below.refl _ _) (Nat.le_refl _) (by simp) ?_; (case hd => rfl); (case hg => rfl); (case hr => first | (go_simp; done) | (go_simp; rfl)); (case hp => exact (Reps.none _ _)); intro v243 w21 ho22 hb hg_ hnew_; clear hg_ hnew_; (first | rw [← Ny242.out] at ho22 | (simp only [Int.reduceToNat] at ho22; rw [← Ny242.out] at ho22)); have n0_ := Aside0.mk (Kd.R_lower ho22 (below_size (by repeat (first | (with_reducible first | exact HB.out | apply below_alloc | apply pw_below_drewN | apply below_drew1) | exact HB.out)))); have n1_ := Aside0.mk (below_step (by repeat (first | (with_reducible first | exact HB.out | apply below_alloc | apply pw_below_drewN | apply below_drew1) | exact HB.out)) hb); clear HB; have HO244 := n0_; have HB := n1_; clear n0_ n1_; clear hb ho22) | ((with_reducible refine gate_builtin (b := .append) (xs := #[.tmp 23, .tmp 24]) rfl ?_); at_builtin; refine Kd.R_append_rows (Kd.int .i64) (w0 := w) w.heap.size rfl (.tmp 23) (.tmp 24) 22 27 (.int .i64 0) 8 rfl Try.underlying22 info27 rfl (by decide) (by omega) v243 y242 l0 _ _ _ (fun _ => True) (fun _ => False) rfl rfl ?aO ?aR (fun _ _ h => h) (fun _ h => h.elim) ?aF ?aB ?aS ?aL ?_; (case aR => repeat (first | exact (Kd.C_below HR0.out HB.out) | (with_reducible refine Kd.C_alloc ?_ _) | (with_reducible refine Kd.C_drewN ?_ _) | (with_reducible refine Kd.C_drew ?_))); (case aB => exact (by repeat (first | (with_reducible first | exact HB.out | apply below_alloc | apply pw_below_drewN | apply below_drew1) | exact HB.out))); (case aF => exact (fun _ _ => trivial)); (case aO => exact (by (with_reducible repeat (first | apply Kd.R_alloc | apply Kd.R_drewN | apply Kd.R_drew)); exact HO244.out)); (case aS => exact (below_size (by repeat (first | (with_reducible first | exact HB.out | apply below_alloc | apply pw_below_drewN | apply below_drew1) | exact HB.out)))); (case aL => have := LMc7.out; omega); intro v246 w23 ho hb hg hat; rw [← Ny245.out] at ho; have n0_ := Aside0.mk (hb); have n1_ := Aside0.mk (ho); clear HB; clear HO244; have HB := n0_; have HO247 := n1_; clear n0_ n1_; clear ho hb hg hat) | ((with_reducible refine gate_callee (f := 11) rfl ?_); refine goesL_ (some 30) rfl rfl Try.func11 (by kernel_rfl) rfl #[.int .i64 a2, .slice A0 l0.length c0, .int .i64 a1] rfl (by (try simp only [List.map_toArray, List.map_cons, List.map_nil]); first | done | rfl | (simp only [List.length_drop, List.length_take]; rfl)) ?_; (with_reducible refine (weak_Rule.calls a2 _ _ l0 a1 t248 t249 _ ?side1 ?side2 A8.out).mono ?_); (case side1 => repeat (first | exact (Kd.C_below HR0.out HB.out) | (with_reducible refine Kd.C_alloc ?_ _) | (with_reducible refine Kd.C_drewN ?_ _) | (with_reducible refine Kd.C_drew ?_))); (case side2 => exact HC0.out); rintro e w24 ⟨v250, rfl, ho0, hb⟩; refine ⟨_, rfl, ?_⟩; have n0_ := Aside0.mk (Kd.R_elder' (by (with_reducible repeat (first | apply Kd.R_alloc | apply Kd.R_drewN | apply Kd.R_drew)); exact HO247.out) (Kd.R_base ho0) hb); have n1_ := Aside0.mk (Kd.R_lower (Kd.R_new' ho0 (Kd.R_lt (by (with_reducible repeat (first | apply Kd.R_alloc | apply Kd.R_drewN | apply Kd.R_drew)); exact HO247.out))) (below_size (by repeat (first | (with_reducible first | exact HB.out | apply below_alloc | apply pw_below_drewN | apply below_drew1) | exact HB.out)))); have n2_ := Aside0.mk (below_step (by repeat (first | (with_reducible first | exact HB.out | apply below_alloc | apply pw_below_drewN | apply below_drew1) | exact HB.out)) hb); clear HO247; clear HB; have HO247 := n0_; have HO251 := n1_; have HB := n2_; clear n0_ n1_ n2_; (try clear hb); (try clear hb2); (try clear hk); (try clear hi); (try clear ho0)) | ((with_reducible refine gate_callee (f := 12) rfl ?_); refine goesL_ (some 37) rfl rfl Try.func12 (by kernel_rfl) rfl #[.int .i64 a2, .slice A0 l0.length c0, .int .i64 a1] rfl (by (try simp only [List.map_toArray, List.map_cons, List.map_nil]); first | done | rfl | (simp only [List.length_drop, List.length_take]; rfl)) ?_; (with_reducible refine (frisketref10_Rule.calls k a2 _ _ l0 a1 t252 t253 _ ?side1 ?side2 A9.out).mono ?_); (case side1 => repeat (first | exact (Kd.C_below HR0.out HB.out) | (with_reducible refine Kd.C_alloc ?_ _) | (with_reducible refine Kd.C_drewN ?_ _) | (with_reducible refine Kd.C_drew ?_))); (case side2 => exact HC0.out); rintro e w25 ⟨v254, rfl, ho0, hb⟩; refine ⟨_, rfl, ?_⟩; have n0_ := Aside0.mk (Kd.R_elder' (by (with_reducible repeat (first | apply Kd.R_alloc | apply Kd.R_drewN | apply Kd.R_drew)); exact HO247.out) (Kd.R_base ho0) hb); have n1_ := Aside0.mk (Kd.R_elder' (by (with_reducible repeat (first | apply Kd.R_alloc | apply Kd.R_drewN | apply Kd.R_drew)); exact HO251.out) (Kd.R_base ho0) hb); have n2_ := Aside0.mk (Kd.R_lower (Kd.R_new' (Kd.R_new' ho0 (Kd.R_lt (by (with_reducible repeat (first | apply Kd.R_alloc | apply Kd.R_drewN | apply Kd.R_drew)); exact HO247.out))) (Kd.R_lt (by (with_reducible repeat (first | apply Kd.R_alloc | apply Kd.R_drewN | apply Kd.R_drew)); exact HO251.out))) (below_size (by repeat (first | (with_reducible first | exact HB.out | apply below_alloc | apply pw_below_drewN | apply below_drew1) | exact HB.out)))); have n3_ := Aside0.mk (below_step (by repeat (first | (with_reducible first | exact HB.out | apply below_alloc | apply pw_below_drewN | apply below_drew1) | exact HB.out)) hb); clear HO247; clear HO251; clear HB; have HO247 := n0_; have HO251 := n1_; have HO255 := n2_; have HB := n3_; clear n0_ n1_ n2_ n3_; (try clear hb); (try clear hb2); (try clear hk); (try clear hi); (try clear ho0)) | ((with_reducible refine gate_callee (f := 8) rfl ?_); refine goesL_ (some 43) rfl rfl Try.func8 (by kernel_rfl) rfl #[.slice A0 l0.length c0, .int .i64 a1] rfl (by (try simp only [List.map_toArray, List.map_cons, List.map_nil]); first | done | rfl | (simp only [List.length_drop, List.length_take]; rfl)) ?_; (with_reducible refine (weak_All.calls _ _ l0 a1 t256 t257 _ ?side1 ?side2 A10.out).mono ?_); (case side1 => repeat (first | exact (Kd.C_below HR0.out HB.out) | (with_reducible refine Kd.C_alloc ?_ _) | (with_reducible refine Kd.C_drewN ?_ _) | (with_reducible refine Kd.C_drew ?_))); (case side2 => exact HC0.out); rintro e w26 ⟨v258, rfl, ho0, hb⟩; refine ⟨_, rfl, ?_⟩; have n0_ := Aside0.mk (Kd.R_elder' (by (with_reducible repeat (first | apply Kd.R_alloc | apply Kd.R_drewN | apply Kd.R_drew)); exact HO247.out) (Kd.R_base ho0) hb); have n1_ := Aside0.mk (Kd.R_elder' (by (with_reducible repeat (first | apply Kd.R_alloc | apply Kd.R_drewN | apply Kd.R_drew)); exact HO251.out) (Kd.R_base ho0) hb); have n2_ := Aside0.mk (Kd.R_elder' (by (with_reducible repeat (first | apply Kd.R_alloc | apply Kd.R_drewN | apply Kd.R_drew)); exact HO255.out) (Kd.R_base ho0) hb); have n3_ := Aside0.mk (Kd.R_lower (Kd.R_new' (Kd.R_new' (Kd.R_new' ho0 (Kd.R_lt (by (with_reducible repeat (first | apply Kd.R_alloc | apply Kd.R_drewN | apply Kd.R_drew)); exact HO247.out))) (Kd.R_lt (by (with_reducible repeat (first | apply Kd.R_alloc | apply Kd.R_drewN | apply Kd.R_drew)); exact HO251.out))) (Kd.R_lt (by (with_reducible repeat (first | apply Kd.R_alloc | apply Kd.R_drewN | apply Kd.R_drew)); exact HO255.out))) (below_size (by repeat (first | (with_reducible first | exact HB.out | apply below_alloc | apply pw_below_drewN | apply below_drew1) | exact HB.out)))); have n4_ := Aside0.mk (below_step (by repeat (first | (with_reducible first | exact HB.out | apply below_alloc | apply pw_below_drewN | apply below_drew1) | exact HB.out)) hb); clear HO247; clear HO251; clear HO255; clear HB; have HO247 := n0_; have HO251 := n1_; have HO255 := n2_; have HO259 := n3_; have HB := n4_; clear n0_ n1_ n2_ n3_ n4_; (try clear hb); (try clear hb2); (try clear hk); (try clear hi); (try clear ho0)) | ((with_reducible refine gate_callee (f := 13) rfl ?_); refine goesL_ (some 49) rfl rfl Try.func13 (by kernel_rfl) rfl #[.slice A0 l0.length c0, .int .i64 a1] rfl (by (try simp only [List.map_toArray, List.map_cons, List.map_nil]); first | done | rfl | (simp only [List.length_drop, List.length_take]; rfl)) ?_; (with_reducible refine (frisketref10_All.calls k (fun k_ => k_ < w.heap.size) _ _ l0 a1 t260 t263 _ ?side1 A11.out).mono ?_); (case side1 => exact Kd.V_mk HC0.out (Kd.F_below (Kd.C_F (Kd.heap_int .i64) HR0.out) (by repeat (first | (with_reducible first | exact HB.out | apply below_alloc | apply pw_below_drewN | apply below_drew1) | exact HB.out)))); rintro e w27 ⟨v261, rfl, ho0, hb⟩; refine ⟨_, rfl, ?_⟩; have n0_ := Aside0.mk (Kd.R_below (by (with_reducible repeat (first | apply Kd.R_alloc | apply Kd.R_drewN | apply Kd.R_drew)); exact HO247.out) hb); have n1_ := Aside0.mk (Kd.R_below (by (with_reducible repeat (first | apply Kd.R_alloc | apply Kd.R_drewN | apply Kd.R_drew)); exact HO251.out) hb); have n2_ := Aside0.mk (Kd.R_below (by (with_reducible repeat (first | apply Kd.R_alloc | apply Kd.R_drewN | apply Kd.R_drew)); exact HO255.out) hb); have n3_ := Aside0.mk (Kd.R_below (by (with_reducible repeat (first | apply Kd.R_alloc | apply Kd.R_drewN | apply Kd.R_drew)); exact HO259.out) hb); have n4_ := Aside0.mk (Kd.V_lower (Kd.V_mono (ok' := fun k_ => some k_ ≠ (v246 : Value).ownBlock ∧ some k_ ≠ (v250 : Value).ownBlock ∧ some k_ ≠ (v254 : Value).ownBlock ∧ some k_ ≠ (v258 : Value).ownBlock) ho0 (fun k_ hk_ => ⟨Or.elim hk_ (fun hs_ => fun e_ => Nat.not_le.2 hs_ (Kd.R_base HO247.out k_ e_.symm)) (fun hn_ => (Kd.fresh' (Kd.R_lt (by (with_reducible repeat (first | apply Kd.R_alloc | apply Kd.R_drewN | apply Kd.R_drew)); exact HO247.out)) k_ hn_)), Or.elim hk_ (fun hs_ => fun e_ => Nat.not_le.2 hs_ (Kd.R_base HO251.out k_ e_.symm)) (fun hn_ => (Kd.fresh' (Kd.R_lt (by (with_reducible repeat (first | apply Kd.R_alloc | apply Kd.R_drewN | apply Kd.R_drew)); exact HO251.out)) k_ hn_)), Or.elim hk_ (fun hs_ => fun e_ => Nat.not_le.2 hs_ (Kd.R_base HO255.out k_ e_.symm)) (fun hn_ => (Kd.fresh' (Kd.R_lt (by (with_reducible repeat (first | apply Kd.R_alloc | apply Kd.R_drewN | apply Kd.R_drew)); exact HO255.out)) k_ hn_)), Or.elim hk_ (fun hs_ => fun e_ => Nat.not_le.2 hs_ (Kd.R_base HO259.out k_ e_.symm)) (fun hn_ => (Kd.fresh' (Kd.R_lt (by (with_reducible repeat (first | apply Kd.R_alloc | apply Kd.R_drewN | apply Kd.R_drew)); exact HO259.out)) k_ hn_))⟩)) (below_size (by repeat (first | (with_reducible first | exact HB.out | apply below_alloc | apply pw_below_drewN | apply below_drew1) | exact HB.out)))); have n5_ := Aside0.mk (below_step (by repeat (first | (with_reducible first | exact HB.out | apply below_alloc | apply pw_below_drewN | apply below_drew1) | exact HB.out)) hb); clear HO247; clear HO251; clear HO255; clear HO259; clear HB; have HO247 := n0_; have HO251 := n1_; have HO255 := n2_; have HO259 := n3_; have HO262 := n4_; have HB := n5_; clear n0_ n1_ n2_ n3_ n4_ n5_; (try clear hb); (try clear hb2); (try clear hk); (try clear hi); (try clear ho0); obtain ⟨Ao28, co28, eo28⟩ := Kd.R_slice HO251.out; subst eo28; obtain ⟨Ao29, co29, eo29⟩ := Kd.R_slice HO255.out; subst eo29) | ((with_reducible refine gate_callee (f := 10) rfl ?_); refine goesL_ (some 54) rfl rfl Try.func10 (by kernel_rfl) rfl #[.slice Ao28 t248.length co28, .slice Ao29 t252.length co29] rfl (by (try simp only [List.map_toArray, List.map_cons, List.map_nil]); first | done | rfl | (simp only [List.length_drop, List.length_take]; rfl)) ?_; (with_reducible refine (frisketlaw08_Same.calls k _ _ t248 _ _ t252 true _ ?side1 ?side2 ?side3 ?side4 A12.out).mono ?_); (case side1 => repeat (first | exact (Kd.R_reads' HO251.out).2.2 | (with_reducible refine Kd.C_alloc ?_ _) | (with_reducible refine Kd.C_drewN ?_ _) | (with_reducible refine Kd.C_drew ?_))); (case side2 => exact (Kd.R_reads' HO251.out).2.1); (case side3 => repeat (first | exact (Kd.R_reads' HO255.out).2.2 | (with_reducible refine Kd.C_alloc ?_ _) | (with_reducible refine Kd.C_drewN ?_ _) | (with_reducible refine Kd.C_drew ?_))); (case side4 => exact (Kd.R_reads' HO255.out).2.1); rintro e w' ⟨rfl, ⟨nd, rfl⟩⟩; refine ⟨_, rfl, ?_⟩; obtain ⟨Ao30, co30, eo30⟩ := Kd.R_slice HO259.out; subst eo30; obtain ⟨Ao31, co31, eo31⟩ := Kd.V_slice HO262.out; subst eo31) | ((with_reducible refine gate_callee (f := 10) rfl ?_); refine goesL_ (some 57) rfl rfl Try.func10 (by kernel_rfl) rfl #[.slice Ao30 t256.length co30, .slice Ao31 t260.length co31] rfl (by (try simp only [List.map_toArray, List.map_cons, List.map_nil]); first | done | rfl | (simp only [List.length_drop, List.length_take]; rfl)) ?_; (with_reducible refine (frisketlaw08_Same.calls k _ _ t256 _ _ t260 true _ ?side1 ?side2 ?side3 ?side4 A13.out).mono ?_); (case side1 => repeat (first | exact (Kd.R_reads' HO259.out).2.2 | (with_reducible refine Kd.C_alloc ?_ _) | (with_reducible refine Kd.C_drewN ?_ _) | (with_reducible refine Kd.C_drew ?_))); (case side2 => exact (Kd.R_reads' HO259.out).2.1); (case side3 => repeat (first | exact (Kd.V_reads' HO262.out).2.2 | (with_reducible refine Kd.C_alloc ?_ _) | (with_reducible refine Kd.C_drewN ?_ _) | (with_reducible refine Kd.C_drew ?_))); (case side4 => exact (Kd.V_reads' HO262.out).2.1); rintro e w' ⟨rfl, ⟨nd, rfl⟩⟩; refine ⟨_, rfl, ?_⟩; obtain ⟨Ao32, co32, eo32⟩ := Kd.R_slice HO247.out; subst eo32) | ((with_reducible refine gate_callee (f := 10) rfl ?_); refine goesL_ (some 60) rfl rfl Try.func10 (by kernel_rfl) rfl #[.slice A0 l0.length c0, .slice Ao32 y245.length co32] rfl (by (try simp only [List.map_toArray, List.map_cons, List.map_nil]); first | done | rfl | (simp only [List.length_drop, List.length_take]; rfl)) ?_; (with_reducible refine (frisketlaw08_Same.calls k _ _ l0 _ _ y245 t266 _ ?side1 ?side2 ?side3 ?side4 A14.out).mono ?_); (case side1 => repeat (first | exact (Kd.C_below HR0.out (by repeat (first | (with_reducible first | exact HB.out | apply below_alloc | apply pw_below_drewN | apply below_drew1) | exact HB.out))) | (with_reducible refine Kd.C_alloc ?_ _) | (with_reducible refine Kd.C_drewN ?_ _) | (with_reducible refine Kd.C_drew ?_))); (case side2 => exact HC0.out); (case side3 => repeat (first | exact (Kd.R_reads' HO247.out).2.2 | (with_reducible refine Kd.C_alloc ?_ _) | (with_reducible refine Kd.C_drewN ?_ _) | (with_reducible refine Kd.C_drew ?_))); (case side4 => exact (Kd.R_reads' HO247.out).2.1); rintro e w' ⟨rfl, ⟨nd, rfl⟩⟩; refine ⟨_, rfl, ?_⟩) | ((with_reducible refine gate_callee (f := 7) rfl ?_); refine goesL_ (some 61) rfl rfl Try.func7 (by kernel_rfl) rfl #[] rfl (by (try simp only [List.map_toArray, List.map_cons, List.map_nil]); first | done | rfl | (simp only [List.length_drop, List.length_take]; rfl)) ?_; (with_reducible refine (frisketlaw10_alive.calls k  true _ A15.out).mono ?_); rintro e w33 ⟨rfl, hb⟩; refine ⟨_, rfl, ?_⟩; have n0_ := Aside0.mk (Kd.R_below (by (with_reducible repeat (first | apply Kd.R_alloc | apply Kd.R_drewN | apply Kd.R_drew)); exact HO247.out) hb); have n1_ := Aside0.mk (Kd.R_below (by (with_reducible repeat (first | apply Kd.R_alloc | apply Kd.R_drewN | apply Kd.R_drew)); exact HO251.out) hb); have n2_ := Aside0.mk (Kd.R_below (by (with_reducible repeat (first | apply Kd.R_alloc | apply Kd.R_drewN | apply Kd.R_drew)); exact HO255.out) hb); have n3_ := Aside0.mk (Kd.R_below (by (with_reducible repeat (first | apply Kd.R_alloc | apply Kd.R_drewN | apply Kd.R_drew)); exact HO259.out) hb); have n4_ := Aside0.mk (Kd.V_below (by (with_reducible repeat (first | apply Kd.V_alloc | apply Kd.V_drewN | apply Kd.V_drew)); exact HO262.out) hb); have n5_ := Aside0.mk (below_step (by repeat (first | (with_reducible first | exact HB.out | apply below_alloc | apply pw_below_drewN | apply below_drew1) | exact HB.out)) hb); clear HO247; clear HO251; clear HO255; clear HO259; clear HO262; clear HB; have HO247 := n0_; have HO251 := n1_; have HO255 := n2_; have HO259 := n3_; have HO262 := n4_; have HB := n5_; clear n0_ n1_ n2_ n3_ n4_ n5_; (try clear hb); (try clear hb2); (try clear hk); (try clear hi)))
                go_ret
                exact ⟨by first | rfl | (simp [errW_none, errW_some] <;> rfl) | (simp [*, errW_none, errW_some] <;> rfl), by repeat (first | (with_reducible first | exact HB.out | apply below_alloc | apply pw_below_drewN | apply below_drew1) | exact HB.out)⟩
              · rw [if_neg c20] at H
                have c20b0 : (t257 == t263) = false := beq_eq_false_iff_ne.mpr c20
                have c20b1 : (t257 != t263) = true := bne_iff_ne.mpr c20
                exact af_absurd HRT.out H (by repeat (first | exact AF.none | exact AF.false | refine AF.ite ?_ ?_ | refine AF.bind (fun _ => ?_)))
            · replace c19 := Bool.eq_false_iff.mpr c19
              subst c19
              have H1 : (some false) = some r := by rw [if_neg (show ¬ (false = true) by decide)] at H; exact H
              clear H
              have H := H1
              clear H1
              exact af_absurd HRT.out H (by repeat (first | exact AF.none | exact AF.false | refine AF.ite ?_ ?_ | refine AF.bind (fun _ => ?_)))
          · rw [if_neg c18] at H
            have c18b0 : (t249 == t253) = false := beq_eq_false_iff_ne.mpr c18
            have c18b1 : (t249 != t253) = true := bne_iff_ne.mpr c18
            exact af_absurd HRT.out H (by repeat (first | exact AF.none | exact AF.false | refine AF.ite ?_ ?_ | refine AF.bind (fun _ => ?_)))
        · replace c17 := Bool.eq_false_iff.mpr c17
          subst c17
          have H1 : (some false) = some r := by rw [if_neg (show ¬ (false = true) by decide)] at H; exact H
          clear H
          have H := H1
          clear H1
          exact af_absurd HRT.out H (by repeat (first | exact AF.none | exact AF.false | refine AF.ite ?_ ?_ | refine AF.bind (fun _ => ?_)))
      · replace c16 := Bool.eq_false_iff.mpr c16
        subst c16
        have H1 : (some false) = some r := by rw [if_neg (show ¬ (false = true) by decide)] at H; exact H
        clear H
        have H := H1
        clear H1
        exact af_absurd HRT.out H (by repeat (first | exact AF.none | exact AF.false | refine AF.ite ?_ ?_ | refine AF.bind (fun _ => ?_)))
    · rw [if_neg c7] at H
      exact absurd H (by simp)

end Go.Proofs.Ytdhknnaholaohaa.P
