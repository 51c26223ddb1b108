/- Written by wip/tools/gprint.py of this repo over the translation: Lean functions that answer as the Go functions named below do, and the proof of it; the conditions stand in each theorem. -/
import Derived.Test.YtijikaihmaganaaP0
import Derived.Test.YtijikaihmaganaaP6
import Derived.Test.YtijikaihmaganaaP7
import Derived.Test.YtijikaihmaganaaP12
import Derived.Test.YtijikaihmaganaaP13
import Derived.Test.YtijikaihmaganaaP14
import Derived.Test.YtijikaihmaganaaP15
import Derived.Test.YtijikaihmaganaaHAlive
import Derived.Test.YtijikaihmaganaaHNext
namespace Go.Proofs.Ytijikaihmaganaa.P
open Go.RowKit Go.Proofs.YtijikaihmaganaaW.PrintWords Go.Proofs.YtijikaihmaganaaW.PrintLast Go.Proofs.YtijikaihmaganaaW.PrintMore
attribute [local go_sem] max2_int min2_int max_two min_two max_three min_three max_four min_four   -- for this text's walks alone
set_option linter.unusedVariables false
set_option linter.unusedSimpArgs false

/-! ### frisketlaw01_UtfReads: function 4 -/
def frisketlaw01_UtfReads.f (k : Nat) (l0 : List Int) : Option (Bool) := if (l0.length : Int) > 400 then ((frisketlaw01_alive.f).bind fun t177 => (some t177)) else ((utf_Next.f l0).bind fun bt178 => ((frisketref01_Next.f k l0).bind fun bt181 => ((utf_Decode.f l0).bind fun bt184 => ((frisketref01_Decode.f k l0).bind fun bt188 => ((utf_Wrong.f l0).bind fun bt192 => ((frisketref01_Wrong.f k l0).bind fun bt194 => ((frisketlaw01_alive.f).bind fun t196 => (if t196 = true then (if bt178.1 = bt181.1 then (if bt178.2.1 = bt181.2.1 then (if bt178.2.2 = bt181.2.2 then ((frisketref01_Ints.f k bt184.1 bt188.1).bind fun t197 => (if t197 = true then (if bt184.2 = bt188.2 then (if bt192.1 = bt194.1 then (if (bt192.2 == bt194.2) = true then (some ((strOfNums l0).toList == (strOfNums l0).toList)) else (some false)) else (some false)) else (some false)) else (some false))) else (some false)) else (some false)) else (some false)) else (some false)))))))))
theorem frisketlaw01_UtfReads.mono : ∀ a0 k, LeO (frisketlaw01_UtfReads.f k a0) (frisketlaw01_UtfReads.f (k + 1) a0) := by
  intro a0 k
  unfold frisketlaw01_UtfReads.f
  repeat' first
      | (with_reducible exact frisketref01_Decode.mono _ _)
      | (with_reducible exact frisketref01_Ints.mono _ _ _)
      | (with_reducible exact frisketref01_Next.mono _ _)
      | (with_reducible exact frisketref01_Wrong.mono _ _)
      | (with_reducible exact LeO.refl _)
      | (with_reducible exact LeO.none _)
      | (with_reducible refine LeO.ite ?_ ?_)
      | (with_reducible refine LeO.bind ?_ (fun _ => ?_))
      | exact frisketref01_Decode.mono _ _
      | exact frisketref01_Ints.mono _ _ _
      | exact frisketref01_Next.mono _ _
      | exact frisketref01_Wrong.mono _ _
      | exact LeO.none _
      | refine LeO.ite ?_ ?_
      | refine LeO.bind ?_ (fun _ => ?_)
set_option maxHeartbeats 8000000 in
set_option maxRecDepth 100000 in
theorem frisketlaw01_UtfReads.calls (k : Nat) (A0 : Option Addr) (c0 : Nat) (l0 : List Int) (r : Bool) (w : World) (hr0 : Kd.C (Kd.int .u8) w A0 l0.length l0) (hc0 : l0.length ≤ c0) (hrt : r = true) (h : frisketlaw01_UtfReads.f k l0 = some r) :
    Calls Try.prog 4 #[.slice A0 l0.length c0] w fun e w' => e = .returned (.bool r) ∧ Below w.heap.size w w' := by
  have HR0 := Aside0.mk hr0
  have HC0 := Aside0.mk hc0
  clear hr0 hc0
  have HB := Aside0.mk (Below.refl w.heap.size w)
  have HRT := Aside0.mk hrt
  clear hrt
  have H : (if (l0.length : Int) > 400 then ((frisketlaw01_alive.f).bind fun t177 => (some t177)) else ((utf_Next.f l0).bind fun bt178 => ((frisketref01_Next.f k l0).bind fun bt181 => ((utf_Decode.f l0).bind fun bt184 => ((frisketref01_Decode.f k l0).bind fun bt188 => ((utf_Wrong.f l0).bind fun bt192 => ((frisketref01_Wrong.f k l0).bind fun bt194 => ((frisketlaw01_alive.f).bind fun t196 => (if t196 = true then (if bt178.1 = bt181.1 then (if bt178.2.1 = bt181.2.1 then (if bt178.2.2 = bt181.2.2 then ((frisketref01_Ints.f k bt184.1 bt188.1).bind fun t197 => (if t197 = true then (if bt184.2 = bt188.2 then (if bt192.1 = bt194.1 then (if (bt192.2 == bt194.2) = true then (some ((strOfNums l0).toList == (strOfNums l0).toList)) else (some false)) else (some false)) else (some false)) else (some false))) else (some false)) else (some false)) else (some false)) else (some false)))))))))) = some r := h
  clear h
  by_cases c2 : (l0.length : Int) > 400
  · rw [if_pos c2] at H
    have c2b0 : decide (400 < (l0.length : Int)) = true := decide_eq_true c2
    have c2b1 : decide (400 < l0.length) = true := decide_eq_true (by omega)
    clear c2
    replace H := Option.bind_eq_some_iff.mp H
    obtain ⟨t177, A30, H⟩ := H
    replace H : (some t177) = some r := H
    have A3 := Aside0.mk A30
    clear A30
    obtain rfl := Option.some.inj H
    go_enter Try.func4, Try.ntmps4
    go_wp2_with (first | ((with_reducible refine gate_callee (f := 10) rfl ?_); refine goesL_ (some 21) rfl rfl Try.func10 (by kernel_rfl) rfl #[] rfl (by (try simp only [List.map_toArray, List.map_cons, List.map_nil]); first | done | rfl | (simp only [List.length_drop, List.length_take]; rfl)) ?_; (with_reducible refine (frisketlaw01_alive.calls  t177 _ A3.out).mono ?_); rintro e w4 ⟨rfl, hb⟩; refine ⟨_, rfl, ?_⟩; have n0_ := Aside0.mk (below_step (by repeat (first | (with_reducible first | exact HB.out | apply below_alloc | apply pw_below_drewN | apply below_drew1) | exact HB.out)) hb); clear HB; have HB := n0_; clear n0_; (try clear hb); (try clear hb2); (try clear hk); (try clear hi)))
    go_ret
    exact ⟨by first | rfl | (simp [errW_none, errW_some] <;> rfl) | (simp [*, errW_none, errW_some] <;> rfl), by repeat (first | (with_reducible first | exact HB.out | apply below_alloc | apply pw_below_drewN | apply below_drew1) | exact HB.out)⟩
  · rw [if_neg c2] at H
    have c2b0 : decide (400 < (l0.length : Int)) = false := decide_eq_false c2
    have c2b1 : decide (400 < l0.length) = false := decide_eq_false (by omega)
    clear c2
    replace H := Option.bind_eq_some_iff.mp H
    obtain ⟨⟨t178, t179, t180⟩, A50, H⟩ := H
    replace H : ((frisketref01_Next.f k l0).bind fun bt181 => ((utf_Decode.f l0).bind fun bt184 => ((frisketref01_Decode.f k l0).bind fun bt188 => ((utf_Wrong.f l0).bind fun bt192 => ((frisketref01_Wrong.f k l0).bind fun bt194 => ((frisketlaw01_alive.f).bind fun t196 => (if t196 = true then (if t178 = bt181.1 then (if t179 = bt181.2.1 then (if t180 = bt181.2.2 then ((frisketref01_Ints.f k bt184.1 bt188.1).bind fun t197 => (if t197 = true then (if bt184.2 = bt188.2 then (if bt192.1 = bt194.1 then (if (bt192.2 == bt194.2) = true then (some ((strOfNums l0).toList == (strOfNums l0).toList)) else (some false)) else (some false)) else (some false)) else (some false))) else (some false)) else (some false)) else (some false)) else (some false)))))))) = some r := H
    have A5 := Aside0.mk A50
    clear A50
    replace H := Option.bind_eq_some_iff.mp H
    obtain ⟨⟨t181, t182, t183⟩, A60, H⟩ := H
    replace H : ((utf_Decode.f l0).bind fun bt184 => ((frisketref01_Decode.f k l0).bind fun bt188 => ((utf_Wrong.f l0).bind fun bt192 => ((frisketref01_Wrong.f k l0).bind fun bt194 => ((frisketlaw01_alive.f).bind fun t196 => (if t196 = true then (if t178 = t181 then (if t179 = t182 then (if t180 = t183 then ((frisketref01_Ints.f k bt184.1 bt188.1).bind fun t197 => (if t197 = true then (if bt184.2 = bt188.2 then (if bt192.1 = bt194.1 then (if (bt192.2 == bt194.2) = true then (some ((strOfNums l0).toList == (strOfNums l0).toList)) else (some false)) else (some false)) else (some false)) else (some false))) else (some false)) else (some false)) else (some false)) else (some false))))))) = some r := H
    have A6 := Aside0.mk A60
    clear A60
    replace H := Option.bind_eq_some_iff.mp H
    obtain ⟨⟨t184, t185⟩, A70, H⟩ := H
    replace H : ((frisketref01_Decode.f k l0).bind fun bt188 => ((utf_Wrong.f l0).bind fun bt192 => ((frisketref01_Wrong.f k l0).bind fun bt194 => ((frisketlaw01_alive.f).bind fun t196 => (if t196 = true then (if t178 = t181 then (if t179 = t182 then (if t180 = t183 then ((frisketref01_Ints.f k t184 bt188.1).bind fun t197 => (if t197 = true then (if t185 = bt188.2 then (if bt192.1 = bt194.1 then (if (bt192.2 == bt194.2) = true then (some ((strOfNums l0).toList == (strOfNums l0).toList)) else (some false)) else (some false)) else (some false)) else (some false))) else (some false)) else (some false)) else (some false)) else (some false)))))) = some r := H
    have A7 := Aside0.mk A70
    clear A70
    replace H := Option.bind_eq_some_iff.mp H
    obtain ⟨⟨t188, t189⟩, A80, H⟩ := H
    replace H : ((utf_Wrong.f l0).bind fun bt192 => ((frisketref01_Wrong.f k l0).bind fun bt194 => ((frisketlaw01_alive.f).bind fun t196 => (if t196 = true then (if t178 = t181 then (if t179 = t182 then (if t180 = t183 then ((frisketref01_Ints.f k t184 t188).bind fun t197 => (if t197 = true then (if t185 = t189 then (if bt192.1 = bt194.1 then (if (bt192.2 == bt194.2) = true then (some ((strOfNums l0).toList == (strOfNums l0).toList)) else (some false)) else (some false)) else (some false)) else (some false))) else (some false)) else (some false)) else (some false)) else (some false))))) = some r := H
    have A8 := Aside0.mk A80
    clear A80
    replace H := Option.bind_eq_some_iff.mp H
    obtain ⟨⟨t192, t193⟩, A90, H⟩ := H
    replace H : ((frisketref01_Wrong.f k l0).bind fun bt194 => ((frisketlaw01_alive.f).bind fun t196 => (if t196 = true then (if t178 = t181 then (if t179 = t182 then (if t180 = t183 then ((frisketref01_Ints.f k t184 t188).bind fun t197 => (if t197 = true then (if t185 = t189 then (if t192 = bt194.1 then (if (t193 == bt194.2) = true then (some ((strOfNums l0).toList == (strOfNums l0).toList)) else (some false)) else (some false)) else (some false)) else (some false))) else (some false)) else (some false)) else (some false)) else (some false)))) = some r := H
    have A9 := Aside0.mk A90
    clear A90
    replace H := Option.bind_eq_some_iff.mp H
    obtain ⟨⟨t194, t195⟩, A100, H⟩ := H
    replace H : ((frisketlaw01_alive.f).bind fun t196 => (if t196 = true then (if t178 = t181 then (if t179 = t182 then (if t180 = t183 then ((frisketref01_Ints.f k t184 t188).bind fun t197 => (if t197 = true then (if t185 = t189 then (if t192 = t194 then (if (t193 == t195) = true then (some ((strOfNums l0).toList == (strOfNums l0).toList)) else (some false)) else (some false)) else (some false)) else (some false))) else (some false)) else (some false)) else (some false)) else (some false))) = some r := H
    have A10 := Aside0.mk A100
    clear A100
    replace H := Option.bind_eq_some_iff.mp H
    obtain ⟨t196, A110, H⟩ := H
    replace H : (if t196 = true then (if t178 = t181 then (if t179 = t182 then (if t180 = t183 then ((frisketref01_Ints.f k t184 t188).bind fun t197 => (if t197 = true then (if t185 = t189 then (if t192 = t194 then (if (t193 == t195) = true then (some ((strOfNums l0).toList == (strOfNums l0).toList)) else (some false)) else (some false)) else (some false)) else (some false))) else (some false)) else (some false)) else (some false)) else (some false)) = some r := H
    have A11 := Aside0.mk A110
    clear A110
    by_cases c12 : t196 = true
    · subst c12
      have H1 : (if t178 = t181 then (if t179 = t182 then (if t180 = t183 then ((frisketref01_Ints.f k t184 t188).bind fun t197 => (if t197 = true then (if t185 = t189 then (if t192 = t194 then (if (t193 == t195) = true then (some ((strOfNums l0).toList == (strOfNums l0).toList)) else (some false)) else (some false)) else (some false)) else (some false))) else (some false)) else (some false)) else (some false)) = some r := by rw [if_pos rfl] at H; exact H
      clear H
      have H := H1
      clear H1
      by_cases c13 : t178 = t181
      · rw [if_pos c13] at H
        have c13b0 : (t178 == t181) = true := beq_iff_eq.mpr c13
        have c13b1 : (t178 != t181) = false := bne_eq_false_iff_eq.mpr c13
        clear c13
        by_cases c14 : t179 = t182
        · rw [if_pos c14] at H
          have c14b0 : (t179 == t182) = true := beq_iff_eq.mpr c14
          have c14b1 : (t179 != t182) = false := bne_eq_false_iff_eq.mpr c14
          clear c14
          by_cases c15 : t180 = t183
          · rw [if_pos c15] at H
            have c15b0 : (t180 == t183) = true := beq_iff_eq.mpr c15
            have c15b1 : (t180 != t183) = false := bne_eq_false_iff_eq.mpr c15
            clear c15
            replace H := Option.bind_eq_some_iff.mp H
            obtain ⟨t197, A160, H⟩ := H
            replace H : (if t197 = true then (if t185 = t189 then (if t192 = t194 then (if (t193 == t195) = true then (some ((strOfNums l0).toList == (strOfNums l0).toList)) else (some false)) else (some false)) else (some false)) else (some false)) = some r := H
            have A16 := Aside0.mk A160
            clear A160
            by_cases c17 : t197 = true
            · subst c17
              have H1 : (if t185 = t189 then (if t192 = t194 then (if (t193 == t195) = true then (some ((strOfNums l0).toList == (strOfNums l0).toList)) else (some false)) else (some false)) else (some false)) = some r := by rw [if_pos rfl] at H; exact H
              clear H
              have H := H1
              clear H1
              by_cases c18 : t185 = t189
              · rw [if_pos c18] at H
                have c18b0 : (t185 == t189) = true := beq_iff_eq.mpr c18
                have c18b1 : (t185 != t189) = false := bne_eq_false_iff_eq.mpr c18
                clear c18
                by_cases c19 : t192 = t194
                · rw [if_pos c19] at H
                  have c19b0 : (t192 == t194) = true := beq_iff_eq.mpr c19
                  have c19b1 : (t192 != t194) = false := bne_eq_false_iff_eq.mpr c19
                  clear c19
                  by_cases c20 : (t193 == t195) = true
                  · rw [if_pos c20] at H
                    have c20b0 : (t193 == t195) = true := c20
                    (try (have c20b1 : decide (t193 = t195) = true := by simpa using c20))
                    (try (have c20b2 : (t193 == t195) = true := by simpa using c20))
                    clear c20
                    obtain rfl := Option.some.inj H
                    have hcv21 := Kd.C_string (P := Try.prog) (A := A0) (c := c0) Try.underlying24 Try.underlying5 Try.underlying9 HR0.out
                    go_enter Try.func4, Try.ntmps4
                    go_wp2_with (first | ((with_reducible refine gate_callee (f := 15) rfl ?_); refine goesL_ (some 26) rfl rfl Try.func15 (by kernel_rfl) rfl #[.slice A0 l0.length c0] rfl (by (try simp only [List.map_toArray, List.map_cons, List.map_nil]); first | done | rfl | (simp only [List.length_drop, List.length_take]; rfl)) ?_; (with_reducible refine (utf_Next.calls _ _ l0 t178 t179 t180 _ ?side1 ?side2 A5.out).mono ?_); (case side1 => repeat (first | exact HR0.out | (with_reducible refine Kd.C_alloc ?_ _) | (with_reducible refine Kd.C_drewN ?_ _) | (with_reducible refine Kd.C_drew ?_))); (case side2 => exact HC0.out); rintro e w22 ⟨rfl, hb⟩; refine ⟨_, rfl, ?_⟩; have n0_ := Aside0.mk (below_step (by repeat (first | (with_reducible first | exact HB.out | apply below_alloc | apply pw_below_drewN | apply below_drew1) | exact HB.out)) hb); clear HB; have HB := n0_; clear n0_; (try clear hb); (try clear hb2); (try clear hk); (try clear hi)) | ((with_reducible refine gate_callee (f := 16) rfl ?_); refine goesL_ (some 32) rfl rfl Try.func16 (by kernel_rfl) rfl #[.slice A0 l0.length c0] rfl (by (try simp only [List.map_toArray, List.map_cons, List.map_nil]); first | done | rfl | (simp only [List.length_drop, List.length_take]; rfl)) ?_; (with_reducible refine (frisketref01_Next.calls k _ _ l0 t181 t182 t183 _ ?side1 ?side2 A6.out).mono ?_); (case side1 => repeat (first | exact (Kd.C_below HR0.out HB.out) | (with_reducible refine Kd.C_alloc ?_ _) | (with_reducible refine Kd.C_drewN ?_ _) | (with_reducible refine Kd.C_drew ?_))); (case side2 => exact HC0.out); rintro e w23 ⟨rfl, hb⟩; refine ⟨_, rfl, ?_⟩; have n0_ := Aside0.mk (below_step (by repeat (first | (with_reducible first | exact HB.out | apply below_alloc | apply pw_below_drewN | apply below_drew1) | exact HB.out)) hb); clear HB; have HB := n0_; clear n0_; (try clear hb); (try clear hb2); (try clear hk); (try clear hi)) | ((with_reducible refine gate_callee (f := 17) rfl ?_); refine goesL_ (some 38) rfl rfl Try.func17 (by kernel_rfl) rfl #[.slice A0 l0.length c0] rfl (by (try simp only [List.map_toArray, List.map_cons, List.map_nil]); first | done | rfl | (simp only [List.length_drop, List.length_take]; rfl)) ?_; (with_reducible refine (utf_Decode.calls _ _ l0 t184 t185 _ ?side1 ?side2 A7.out).mono ?_); (case side1 => repeat (first | exact (Kd.C_below HR0.out HB.out) | (with_reducible refine Kd.C_alloc ?_ _) | (with_reducible refine Kd.C_drewN ?_ _) | (with_reducible refine Kd.C_drew ?_))); (case side2 => exact HC0.out); rintro e w24 ⟨v186, rfl, ho0, hb⟩; refine ⟨_, rfl, ?_⟩; have n0_ := Aside0.mk (Kd.R_lower ho0 (below_size (by repeat (first | (with_reducible first | exact HB.out | apply below_alloc | apply pw_below_drewN | apply below_drew1) | exact HB.out)))); have n1_ := Aside0.mk (below_step (by repeat (first | (with_reducible first | exact HB.out | apply below_alloc | apply pw_below_drewN | apply below_drew1) | exact HB.out)) hb); clear HB; have HO187 := n0_; have HB := n1_; clear n0_ n1_; (try clear hb); (try clear hb2); (try clear hk); (try clear hi); (try clear ho0)) | ((with_reducible refine gate_callee (f := 18) rfl ?_); refine goesL_ (some 43) rfl rfl Try.func18 (by kernel_rfl) rfl #[.slice A0 l0.length c0] rfl (by (try simp only [List.map_toArray, List.map_cons, List.map_nil]); first | done | rfl | (simp only [List.length_drop, List.length_take]; rfl)) ?_; (with_reducible refine (frisketref01_Decode.calls k _ _ l0 t188 t189 _ ?side1 ?side2 A8.out).mono ?_); (case side1 => repeat (first | exact (Kd.C_below HR0.out HB.out) | (with_reducible refine Kd.C_alloc ?_ _) | (with_reducible refine Kd.C_drewN ?_ _) | (with_reducible refine Kd.C_drew ?_))); (case side2 => exact HC0.out); rintro e w25 ⟨v190, rfl, ho0, hb⟩; refine ⟨_, rfl, ?_⟩; have n0_ := Aside0.mk (Kd.R_elder' (by (with_reducible repeat (first | apply Kd.R_alloc | apply Kd.R_drewN | apply Kd.R_drew)); exact HO187.out) (Kd.R_base ho0) hb); have n1_ := Aside0.mk (Kd.R_lower (Kd.R_new' ho0 (Kd.R_lt (by (with_reducible repeat (first | apply Kd.R_alloc | apply Kd.R_drewN | apply Kd.R_drew)); exact HO187.out))) (below_size (by repeat (first | (with_reducible first | exact HB.out | apply below_alloc | apply pw_below_drewN | apply below_drew1) | exact HB.out)))); have n2_ := Aside0.mk (below_step (by repeat (first | (with_reducible first | exact HB.out | apply below_alloc | apply pw_below_drewN | apply below_drew1) | exact HB.out)) hb); clear HO187; clear HB; have HO187 := n0_; have HO191 := n1_; have HB := n2_; clear n0_ n1_ n2_; (try clear hb); (try clear hb2); (try clear hk); (try clear hi); (try clear ho0)) | ((with_reducible refine gate_callee (f := 19) rfl ?_); refine goesL_ (some 48) rfl rfl Try.func19 (by kernel_rfl) rfl #[.slice A0 l0.length c0] rfl (by (try simp only [List.map_toArray, List.map_cons, List.map_nil]); first | done | rfl | (simp only [List.length_drop, List.length_take]; rfl)) ?_; (with_reducible refine (utf_Wrong.calls _ _ l0 t192 t193 _ ?side1 ?side2 A9.out).mono ?_); (case side1 => repeat (first | exact (Kd.C_below HR0.out HB.out) | (with_reducible refine Kd.C_alloc ?_ _) | (with_reducible refine Kd.C_drewN ?_ _) | (with_reducible refine Kd.C_drew ?_))); (case side2 => exact HC0.out); rintro e w26 ⟨rfl, hb⟩; refine ⟨_, rfl, ?_⟩; have n0_ := Aside0.mk (Kd.R_below (by (with_reducible repeat (first | apply Kd.R_alloc | apply Kd.R_drewN | apply Kd.R_drew)); exact HO187.out) hb); have n1_ := Aside0.mk (Kd.R_below (by (with_reducible repeat (first | apply Kd.R_alloc | apply Kd.R_drewN | apply Kd.R_drew)); exact HO191.out) hb); have n2_ := Aside0.mk (below_step (by repeat (first | (with_reducible first | exact HB.out | apply below_alloc | apply pw_below_drewN | apply below_drew1) | exact HB.out)) hb); clear HO187; clear HO191; clear HB; have HO187 := n0_; have HO191 := n1_; have HB := n2_; clear n0_ n1_ n2_; (try clear hb); (try clear hb2); (try clear hk); (try clear hi)) | ((with_reducible refine gate_callee (f := 20) rfl ?_); refine goesL_ (some 53) rfl rfl Try.func20 (by kernel_rfl) rfl #[.slice A0 l0.length c0] rfl (by (try simp only [List.map_toArray, List.map_cons, List.map_nil]); first | done | rfl | (simp only [List.length_drop, List.length_take]; rfl)) ?_; (with_reducible refine (frisketref01_Wrong.calls k _ _ l0 t194 t195 _ ?side1 ?side2 A10.out).mono ?_); (case side1 => repeat (first | exact (Kd.C_below HR0.out HB.out) | (with_reducible refine Kd.C_alloc ?_ _) | (with_reducible refine Kd.C_drewN ?_ _) | (with_reducible refine Kd.C_drew ?_))); (case side2 => exact HC0.out); rintro e w27 ⟨rfl, hb⟩; refine ⟨_, rfl, ?_⟩; have n0_ := Aside0.mk (Kd.R_below (by (with_reducible repeat (first | apply Kd.R_alloc | apply Kd.R_drewN | apply Kd.R_drew)); exact HO187.out) hb); have n1_ := Aside0.mk (Kd.R_below (by (with_reducible repeat (first | apply Kd.R_alloc | apply Kd.R_drewN | apply Kd.R_drew)); exact HO191.out) hb); have n2_ := Aside0.mk (below_step (by repeat (first | (with_reducible first | exact HB.out | apply below_alloc | apply pw_below_drewN | apply below_drew1) | exact HB.out)) hb); clear HO187; clear HO191; clear HB; have HO187 := n0_; have HO191 := n1_; have HB := n2_; clear n0_ n1_ n2_; (try clear hb); (try clear hb2); (try clear hk); (try clear hi)) | ((with_reducible refine gate_callee (f := 10) rfl ?_); refine goesL_ (some 56) rfl rfl Try.func10 (by kernel_rfl) rfl #[] rfl (by (try simp only [List.map_toArray, List.map_cons, List.map_nil]); first | done | rfl | (simp only [List.length_drop, List.length_take]; rfl)) ?_; (with_reducible refine (frisketlaw01_alive.calls  true _ A11.out).mono ?_); rintro e w28 ⟨rfl, hb⟩; refine ⟨_, rfl, ?_⟩; have n0_ := Aside0.mk (Kd.R_below (by (with_reducible repeat (first | apply Kd.R_alloc | apply Kd.R_drewN | apply Kd.R_drew)); exact HO187.out) hb); have n1_ := Aside0.mk (Kd.R_below (by (with_reducible repeat (first | apply Kd.R_alloc | apply Kd.R_drewN | apply Kd.R_drew)); exact HO191.out) hb); have n2_ := Aside0.mk (below_step (by repeat (first | (with_reducible first | exact HB.out | apply below_alloc | apply pw_below_drewN | apply below_drew1) | exact HB.out)) hb); clear HO187; clear HO191; clear HB; have HO187 := n0_; have HO191 := n1_; have HB := n2_; clear n0_ n1_ n2_; (try clear hb); (try clear hb2); (try clear hk); (try clear hi); obtain ⟨Ao29, co29, eo29⟩ := Kd.R_slice HO187.out; subst eo29; obtain ⟨Ao30, co30, eo30⟩ := Kd.R_slice HO191.out; subst eo30) | (go_at_call 21; (with_reducible refine (frisketref01_Ints.calls k _ _ t184 _ _ t188 true _ ?side1 ?side2 ?side3 ?side4 A16.out).mono ?_); (case side1 => repeat (first | exact (Kd.R_reads' HO187.out).2.2 | (with_reducible refine Kd.C_alloc ?_ _) | (with_reducible refine Kd.C_drewN ?_ _) | (with_reducible refine Kd.C_drew ?_))); (case side2 => exact (Kd.R_reads' HO187.out).2.1); (case side3 => repeat (first | exact (Kd.R_reads' HO191.out).2.2 | (with_reducible refine Kd.C_alloc ?_ _) | (with_reducible refine Kd.C_drewN ?_ _) | (with_reducible refine Kd.C_drew ?_))); (case side4 => exact (Kd.R_reads' HO191.out).2.1); rintro e w' ⟨rfl, ⟨nd, rfl⟩⟩; have hcv31 := Kd.C_string (P := Try.prog) (A := A0) (c := c0) Try.underlying24 Try.underlying5 Try.underlying9 (Kd.C_below HR0.out HB.out); have hcv31d := fun nd => Kd.C_string (P := Try.prog) (A := A0) (c := c0) Try.underlying24 Try.underlying5 Try.underlying9 (Kd.C_drewN (Kd.C_below HR0.out HB.out) nd)))
                    go_ret
                    exact ⟨by first | rfl | (simp [errW_none, errW_some] <;> rfl) | (simp [*, errW_none, errW_some] <;> rfl), by repeat (first | (with_reducible first | exact HB.out | apply below_alloc | apply pw_below_drewN | apply below_drew1) | exact HB.out)⟩
                  · rw [if_neg c20] at H
                    have c20b0 : (t193 == t195) = false := by simpa using c20
                    (try (have c20b1 : decide (t193 = t195) = false := by simpa using c20))
                    (try (have c20b2 : (t193 == t195) = false := by simpa using c20))
                    (try (have c20b3 : ¬ (t193 = t195) := by simpa using c20))
                    clear c20
                    exact af_absurd HRT.out H (by repeat (first | exact AF.none | exact AF.false | refine AF.ite ?_ ?_ | refine AF.bind (fun _ => ?_)))
                · rw [if_neg c19] at H
                  have c19b0 : (t192 == t194) = false := beq_eq_false_iff_ne.mpr c19
                  have c19b1 : (t192 != t194) = true := bne_iff_ne.mpr c19
                  exact af_absurd HRT.out H (by repeat (first | exact AF.none | exact AF.false | refine AF.ite ?_ ?_ | refine AF.bind (fun _ => ?_)))
              · rw [if_neg c18] at H
                have c18b0 : (t185 == t189) = false := beq_eq_false_iff_ne.mpr c18
                have c18b1 : (t185 != t189) = true := bne_iff_ne.mpr c18
                exact af_absurd HRT.out H (by repeat (first | exact AF.none | exact AF.false | refine AF.ite ?_ ?_ | refine AF.bind (fun _ => ?_)))
            · replace c17 := Bool.eq_false_iff.mpr c17
              subst c17
              have H1 : (some false) = some r := by rw [if_neg (show ¬ (false = true) by decide)] at H; exact H
              clear H
              have H := H1
              clear H1
              exact af_absurd HRT.out H (by repeat (first | exact AF.none | exact AF.false | refine AF.ite ?_ ?_ | refine AF.bind (fun _ => ?_)))
          · rw [if_neg c15] at H
            have c15b0 : (t180 == t183) = false := beq_eq_false_iff_ne.mpr c15
            have c15b1 : (t180 != t183) = true := bne_iff_ne.mpr c15
            exact af_absurd HRT.out H (by repeat (first | exact AF.none | exact AF.false | refine AF.ite ?_ ?_ | refine AF.bind (fun _ => ?_)))
        · rw [if_neg c14] at H
          have c14b0 : (t179 == t182) = false := beq_eq_false_iff_ne.mpr c14
          have c14b1 : (t179 != t182) = true := bne_iff_ne.mpr c14
          exact af_absurd HRT.out H (by repeat (first | exact AF.none | exact AF.false | refine AF.ite ?_ ?_ | refine AF.bind (fun _ => ?_)))
      · rw [if_neg c13] at H
        have c13b0 : (t178 == t181) = false := beq_eq_false_iff_ne.mpr c13
        have c13b1 : (t178 != t181) = true := bne_iff_ne.mpr c13
        exact af_absurd HRT.out H (by repeat (first | exact AF.none | exact AF.false | refine AF.ite ?_ ?_ | refine AF.bind (fun _ => ?_)))
    · replace c12 := Bool.eq_false_iff.mpr c12
      subst c12
      have H1 : (some false) = some r := by rw [if_neg (show ¬ (false = true) by decide)] at H; exact H
      clear H
      have H := H1
      clear H1
      exact af_absurd HRT.out H (by repeat (first | exact AF.none | exact AF.false | refine AF.ite ?_ ?_ | refine AF.bind (fun _ => ?_)))

end Go.Proofs.Ytijikaihmaganaa.P
