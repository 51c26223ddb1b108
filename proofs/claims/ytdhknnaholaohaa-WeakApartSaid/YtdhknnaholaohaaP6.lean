/- Written by wip/tools/gprint.py of this repo over the translation: Lean functions that answer as the Go functions named below do, and the proof of it; the conditions stand in each theorem. -/
import Derived.Test.YtdhknnaholaohaaP0
namespace Go.Proofs.Ytdhknnaholaohaa.P
open Go.RowKit Go.Proofs.YtdhknnaholaohaaW.PrintWords Go.Proofs.YtdhknnaholaohaaW.PrintLast Go.Proofs.YtdhknnaholaohaaW.PrintMore
attribute [local go_sem] max2_int min2_int max_two min_two max_three min_three max_four min_four   -- for this text's walks alone
set_option linter.unusedVariables false
set_option linter.unusedSimpArgs false

/-! ### weak_separators: function 20 -/
def weak_separators.l0 : Nat → List Int → Int → Option (List Int)
  | 0, _, _ => none
  | k + 1, x0, x4 => if (wrap64 (x4 + 1)) < (x0.length : Int) then (if 0 ≤ (wrap64 (x4 - 1)) then (if (wrap64 (x4 - 1)) < (x0.length : Int) then (if (rd x0 (wrap64 (x4 - 1))) = 3 then (if 0 ≤ x4 then (if x4 < (x0.length : Int) then (if (rd x0 x4) = 4 then (if 0 ≤ (wrap64 (x4 + 1)) then (if (rd x0 (wrap64 (x4 + 1))) = (rd x0 (wrap64 (x4 - 1))) then (weak_separators.l0 k (x0.set (x4 : Int).toNat (rd x0 (wrap64 (x4 - 1)))) (wrap64 (x4 + 1))) else (weak_separators.l0 k x0 (wrap64 (x4 + 1)))) else (none)) else (if (rd x0 x4) = 7 then (if 0 ≤ (wrap64 (x4 + 1)) then (if (rd x0 (wrap64 (x4 + 1))) = (rd x0 (wrap64 (x4 - 1))) then (weak_separators.l0 k (x0.set (x4 : Int).toNat (rd x0 (wrap64 (x4 - 1)))) (wrap64 (x4 + 1))) else (weak_separators.l0 k x0 (wrap64 (x4 + 1)))) else (none)) else (weak_separators.l0 k x0 (wrap64 (x4 + 1))))) else (none)) else (none)) else (if (rd x0 (wrap64 (x4 - 1))) = 6 then (if 0 ≤ x4 then (if x4 < (x0.length : Int) then (if (rd x0 x4) = 4 then (if (rd x0 x4) = 7 then (if 0 ≤ (wrap64 (x4 + 1)) then (if (rd x0 (wrap64 (x4 + 1))) = (rd x0 (wrap64 (x4 - 1))) then (weak_separators.l0 k (x0.set (x4 : Int).toNat (rd x0 (wrap64 (x4 - 1)))) (wrap64 (x4 + 1))) else (weak_separators.l0 k x0 (wrap64 (x4 + 1)))) else (none)) else (weak_separators.l0 k x0 (wrap64 (x4 + 1)))) else (if (rd x0 x4) = 7 then (if 0 ≤ (wrap64 (x4 + 1)) then (if (rd x0 (wrap64 (x4 + 1))) = (rd x0 (wrap64 (x4 - 1))) then (weak_separators.l0 k (x0.set (x4 : Int).toNat (rd x0 (wrap64 (x4 - 1)))) (wrap64 (x4 + 1))) else (weak_separators.l0 k x0 (wrap64 (x4 + 1)))) else (none)) else (weak_separators.l0 k x0 (wrap64 (x4 + 1))))) else (none)) else (none)) else (if 0 ≤ x4 then (if x4 < (x0.length : Int) then (if (rd x0 x4) = 4 then (weak_separators.l0 k x0 (wrap64 (x4 + 1))) else (if (rd x0 x4) = 7 then (weak_separators.l0 k x0 (wrap64 (x4 + 1))) else (weak_separators.l0 k x0 (wrap64 (x4 + 1))))) else (none)) else (none)))) else (none)) else (none)) else (some x0)
def weak_separators.f (k : Nat) (l0 : List Int) (a1 : Int) : Option (List Int) := weak_separators.l0 k l0 1
theorem weak_separators.mono_l : ∀ k, (∀ y0 y1, LeO (weak_separators.l0 k y0 y1) (weak_separators.l0 (k + 1) y0 y1))
  | 0 => fun _ _ r h => by simp [weak_separators.l0] at h
  | k + 1 => by
    have ih0 := weak_separators.mono_l k
    · intro y0 y1
      unfold weak_separators.l0
      repeat' first
      | (with_reducible exact ih0 _ _)
      | (with_reducible exact LeO.refl _)
      | (with_reducible exact LeO.none _)
      | (with_reducible refine LeO.ite ?_ ?_)
      | (with_reducible refine LeO.bind ?_ (fun _ => ?_))
      | exact ih0 _ _
      | exact LeO.none _
      | refine LeO.ite ?_ ?_
      | refine LeO.bind ?_ (fun _ => ?_)
theorem weak_separators.mono : ∀ a0 a1 k, LeO (weak_separators.f k a0 a1) (weak_separators.f (k + 1) a0 a1) := by
  intro a0 a1 k
  have ih0 := weak_separators.mono_l k
  unfold weak_separators.f
  repeat' first
      | (with_reducible exact ih0 _ _)
      | (with_reducible exact LeO.refl _)
      | (with_reducible exact LeO.none _)
      | (with_reducible refine LeO.ite ?_ ?_)
      | (with_reducible refine LeO.bind ?_ (fun _ => ?_))
      | exact ih0 _ _
      | exact LeO.none _
      | refine LeO.ite ?_ ?_
      | refine LeO.bind ?_ (fun _ => ?_)
set_option maxHeartbeats 8000000 in
set_option maxRecDepth 100000 in
theorem weak_separators.calls (k : Nat) (P0_ : Nat → Prop) (u9000_ : Value) (l0 : List Int) (a1 : Int) (r : List Int) (w0 w : World) (hB : Below w0.heap.size w0 w) (ho0 : Kd.R (Kd.int .i64) 27 w w0.heap.size P0_ u9000_ l0) (h : weak_separators.f k l0 a1 = some r) :
    Calls Try.prog 20 #[u9000_, .int .i64 a1] w fun e w' => e = .returned (.tuple #[]) ∧ Kd.R (Kd.int .i64) 27 w' w0.heap.size (fun k_ => (P0_ k_ ∨ w.heap.size ≤ k_)) u9000_ r ∧ Below w0.heap.size w0 w' ∧ Kept w w' (fun k_ => P0_ k_) := by
  have HO0 := Aside0.mk (show Kd.R (Kd.int .i64) 27 w w0.heap.size (fun k_ => (P0_ k_ ∨ w.heap.size ≤ k_)) u9000_ l0 from Kd.R_mono ho0 (fun k_ hk => (.inl hk)))
  have HK := Aside0.mk (Kept.refl w (fun k_ => P0_ k_))
  have HW0 := Aside0.mk hB.size
  have HB := Aside0.mk hB
  clear hB
  have H : (weak_separators.l0 k l0 1) = some r := h
  clear h
  have H' := Aside0.mk H
  clear H
  go_enter Try.func20, Try.ntmps20
  go_wp2
  go_loopg [4] k (fun kq v4 w' => ∃ (x0_1 : List Int) (x4_1 : Int), v4 = .int .i64 x4_1 ∧ Aside0 (weak_separators.l0 kq x0_1 x4_1 = some r) ∧ Aside0 (kq ≤ k) ∧ Aside0 (Kd.R (Kd.int .i64) 27 w' w0.heap.size (fun k_ => (P0_ k_ ∨ w.heap.size ≤ k_)) u9000_ x0_1) ∧ Aside0 (Kept w w' (fun k_ => P0_ k_)) ∧ Aside0 (Below w0.heap.size w0 w'))
  case atStart => exact ⟨(l0), (1), (by first | rfl | (simp; done) | (simp [*]; done)), H', ⟨Nat.le_refl _⟩, ⟨by (with_reducible repeat (first | apply Kd.R_alloc | apply Kd.R_drewN | apply Kd.R_drew)); exact HO0.out⟩, ⟨by repeat (first | (with_reducible first | exact HK.out | apply Kept.alloc | apply Kept.drewN | apply Kept.drew) | exact HK.out)⟩, ⟨by repeat (first | (with_reducible first | exact HB.out | apply below_alloc | apply pw_below_drewN | apply below_drew1) | exact HB.out)⟩⟩
  case round =>
    clear H'
    try clear c2
    try clear p2
    obtain ⟨x0_1, x4_1, rfl, HA, HK1, HO_0, HK, HB⟩ := hrel
    cases gk with
    | zero => exact absurd HA.out (by simp [weak_separators.l0])
    | succ k1 =>
      have H := HA.out
      clear HA
      simp only [weak_separators.l0] at H
      by_cases c3 : (wrap64 (x4_1 + 1)) < (x0_1.length : Int)
      · rw [if_pos c3] at H
        have c3b0 : decide ((wrap64 (x4_1 + 1)) < (x0_1.length : Int)) = true := decide_eq_true c3
        clear c3
        obtain ⟨ji4, hji4⟩ : ∃ j_ : Int, (wrap64 (x4_1 - 1)) = j_ := ⟨_, rfl⟩
        replace H : (if 0 ≤ (ji4) then (if (ji4) < (x0_1.length : Int) then (if (rd x0_1 (ji4)) = 3 then (if 0 ≤ x4_1 then (if x4_1 < (x0_1.length : Int) then (if (rd x0_1 x4_1) = 4 then (if 0 ≤ (wrap64 (x4_1 + 1)) then (if (rd x0_1 (wrap64 (x4_1 + 1))) = (rd x0_1 (ji4)) then (weak_separators.l0 k1 (x0_1.set (x4_1 : Int).toNat (rd x0_1 (ji4))) (wrap64 (x4_1 + 1))) else (weak_separators.l0 k1 x0_1 (wrap64 (x4_1 + 1)))) else (none)) else (if (rd x0_1 x4_1) = 7 then (if 0 ≤ (wrap64 (x4_1 + 1)) then (if (rd x0_1 (wrap64 (x4_1 + 1))) = (rd x0_1 (ji4)) then (weak_separators.l0 k1 (x0_1.set (x4_1 : Int).toNat (rd x0_1 (ji4))) (wrap64 (x4_1 + 1))) else (weak_separators.l0 k1 x0_1 (wrap64 (x4_1 + 1)))) else (none)) else (weak_separators.l0 k1 x0_1 (wrap64 (x4_1 + 1))))) else (none)) else (none)) else (if (rd x0_1 (ji4)) = 6 then (if 0 ≤ x4_1 then (if x4_1 < (x0_1.length : Int) then (if (rd x0_1 x4_1) = 4 then (if (rd x0_1 x4_1) = 7 then (if 0 ≤ (wrap64 (x4_1 + 1)) then (if (rd x0_1 (wrap64 (x4_1 + 1))) = (rd x0_1 (ji4)) then (weak_separators.l0 k1 (x0_1.set (x4_1 : Int).toNat (rd x0_1 (ji4))) (wrap64 (x4_1 + 1))) else (weak_separators.l0 k1 x0_1 (wrap64 (x4_1 + 1)))) else (none)) else (weak_separators.l0 k1 x0_1 (wrap64 (x4_1 + 1)))) else (if (rd x0_1 x4_1) = 7 then (if 0 ≤ (wrap64 (x4_1 + 1)) then (if (rd x0_1 (wrap64 (x4_1 + 1))) = (rd x0_1 (ji4)) then (weak_separators.l0 k1 (x0_1.set (x4_1 : Int).toNat (rd x0_1 (ji4))) (wrap64 (x4_1 + 1))) else (weak_separators.l0 k1 x0_1 (wrap64 (x4_1 + 1)))) else (none)) else (weak_separators.l0 k1 x0_1 (wrap64 (x4_1 + 1))))) else (none)) else (none)) else (if 0 ≤ x4_1 then (if x4_1 < (x0_1.length : Int) then (if (rd x0_1 x4_1) = 4 then (weak_separators.l0 k1 x0_1 (wrap64 (x4_1 + 1))) else (if (rd x0_1 x4_1) = 7 then (weak_separators.l0 k1 x0_1 (wrap64 (x4_1 + 1))) else (weak_separators.l0 k1 x0_1 (wrap64 (x4_1 + 1))))) else (none)) else (none)))) else (none)) else (none)) = some r := by first | (rw [hji4] at H; exact H) | (simp only [hji4] at H ⊢; exact H)
        have hji4w : (IntKind.i64.wrap (x4_1 - 1)) = ji4 := (i64_w _).trans hji4
        by_cases c5 : 0 ≤ (ji4)
        · rw [if_pos c5] at H
          have c5b0 : decide (0 ≤ (ji4)) = true := decide_eq_true c5
          clear c5
          by_cases c6 : (ji4) < (x0_1.length : Int)
          · rw [if_pos c6] at H
            have c6b0 : decide ((ji4) < (x0_1.length : Int)) = true := decide_eq_true c6
            clear c6
            by_cases c7 : (rd x0_1 (ji4)) = 3
            · rw [if_pos c7] at H
              have c7b0 : ((rd x0_1 (ji4)) == 3) = true := beq_iff_eq.mpr c7
              have c7b1 : ((rd x0_1 (ji4)) != 3) = false := bne_eq_false_iff_eq.mpr c7
              clear c7
              by_cases c8 : 0 ≤ x4_1
              · rw [if_pos c8] at H
                have c8b0 : decide (0 ≤ x4_1) = true := decide_eq_true c8
                clear c8
                by_cases c9 : x4_1 < (x0_1.length : Int)
                · rw [if_pos c9] at H
                  have c9b0 : decide (x4_1 < (x0_1.length : Int)) = true := decide_eq_true c9
                  clear c9
                  by_cases c10 : (rd x0_1 x4_1) = 4
                  · rw [if_pos c10] at H
                    have c10b0 : ((rd x0_1 x4_1) == 4) = true := beq_iff_eq.mpr c10
                    have c10b1 : ((rd x0_1 x4_1) != 4) = false := bne_eq_false_iff_eq.mpr c10
                    clear c10
                    obtain ⟨ji11, hji11⟩ : ∃ j_ : Int, (wrap64 (x4_1 + 1)) = j_ := ⟨_, rfl⟩
                    replace H : (if 0 ≤ (ji11) then (if (rd x0_1 (ji11)) = (rd x0_1 (ji4)) then (weak_separators.l0 k1 (x0_1.set (x4_1 : Int).toNat (rd x0_1 (ji4))) ji11) else (weak_separators.l0 k1 x0_1 ji11)) else (none)) = some r := by first | (rw [hji11] at H; exact H) | (simp only [hji11] at H ⊢; exact H)
                    (try rw [hji11] at c3b0)
                    have hji11w : (IntKind.i64.wrap (x4_1 + 1)) = ji11 := (i64_w _).trans hji11
                    by_cases c12 : 0 ≤ (ji11)
                    · rw [if_pos c12] at H
                      have c12b0 : decide (0 ≤ (ji11)) = true := decide_eq_true c12
                      clear c12
                      by_cases c13 : (rd x0_1 (ji11)) = (rd x0_1 (ji4))
                      · rw [if_pos c13] at H
                        have c13b0 : ((rd x0_1 (ji11)) == (rd x0_1 (ji4))) = true := beq_iff_eq.mpr c13
                        have c13b1 : ((rd x0_1 (ji11)) != (rd x0_1 (ji4))) = false := bne_eq_false_iff_eq.mpr c13
                        clear c13
                        obtain ⟨y111, hy111⟩ : ∃ y_ : List Int, y_ = (x0_1.set (x4_1 : Int).toNat (rd x0_1 (ji4))) := ⟨_, rfl⟩
                        replace H : (weak_separators.l0 k1 y111 ji11) = some r := by first | (rw [hy111]; with_reducible exact H) | (have H2_ := (Option.bind_some _ _).symm.trans H; rw [hy111]; with_reducible exact H2_) | (have H2_ := (Option.bind_some _ _).symm.trans H; with_reducible exact H2_) | with_reducible exact H | (rw [hy111]; exact H) | exact H
                        have Ny111 := Aside0.mk hy111
                        clear hy111
                        have H' := Aside0.mk H
                        clear H
                        obtain ⟨Ao15, co15, eo15⟩ := Kd.R_slice HO_0.out
                        subst eo15
                        have p108 : 0 ≤ ((ji4) : Int) := of_decide_eq_true (by first | (with_reducible assumption) | assumption)
                        have q108 : (ji4) < (x0_1.length : Int) := of_decide_eq_true (by first | (with_reducible assumption) | assumption)
                        obtain ⟨ad108, e108, hx108_0⟩ := Kd.at_int (Kd.R_reads' HO_0.out).2.2 (ji4) p108 q108
                        cases e108
                        replace p108 := eq_true p108
                        replace q108 := eq_true q108
                        have p109 : 0 ≤ (x4_1 : Int) := of_decide_eq_true (by first | (with_reducible assumption) | assumption)
                        have q109 : x4_1 < (x0_1.length : Int) := of_decide_eq_true (by first | (with_reducible assumption) | assumption)
                        obtain ⟨ad109, e109, hx109_0⟩ := Kd.at_int (Kd.R_reads' HO_0.out).2.2 x4_1 p109 q109
                        obtain rfl : ad108 = ad109 := (by injection e109)
                        replace p109 := eq_true p109
                        replace q109 := eq_true q109
                        have p110 : 0 ≤ ((ji11) : Int) := of_decide_eq_true (by first | (with_reducible assumption) | assumption)
                        have q110 : (ji11) < (x0_1.length : Int) := of_decide_eq_true (by first | (with_reducible assumption) | assumption)
                        obtain ⟨ad110, e110, hx110_0⟩ := Kd.at_int (Kd.R_reads' HO_0.out).2.2 (ji11) p110 q110
                        obtain rfl : ad108 = ad110 := (by injection e110)
                        replace p110 := eq_true p110
                        replace q110 := eq_true q110
                        have p14 : 0 ≤ (x4_1 : Int) := of_decide_eq_true (by first | (with_reducible assumption) | assumption)
                        have q14 : (x4_1 : Int) < ((x0_1.length : Int) : Int) := of_decide_eq_true (by first | (with_reducible assumption) | assumption)
                        obtain ⟨go14, co14, eo14, gb14, gl14, cl14, HG14⟩ := Kd.R_form HO_0.out (by omega)
                        (first | cases eo14 | (injection eo14 with ea_ en_ ec_; (first | subst ea_ | (injection ea_ with ea_; subst ea_)); subst ec_; clear en_))
                        have GB14 := Aside0.mk gb14
                        have GG14 := Aside0.mk HG14
                        clear gb14 gl14 HG14
                        have HMgo14 := Aside0.mk (show (P0_ go14 ∨ w.heap.size ≤ go14) from (HO_0.out.1 _ rfl))
                        (first | simp only [add_plain] at hx108_0 | skip)
                        (first | simp only [add_plain] at hx109_0 | skip)
                        (first | simp only [add_plain] at hx110_0 | skip)
                        obtain ⟨hx14_0, hf14_0⟩ := Kd.R_celln 0 HO_0.out (x4_1 : Int) p14 q14
                        replace p14 := eq_true p14
                        replace q14 := eq_true q14
                        have HP16 := Kd.R_putg HO_0.out (x4_1 : Int) (rd x0_1 (ji4))
                        go_wp2_with (first | ((with_reducible refine gate_store (t := 27) (p := 59) rfl ?_); refine store_event (t := 27) (p := 59) (v := ?vo_w17) (w1 := (wr.setCell ⟨go14, (x4_1 : Int).toNat, none⟩ (.int .i64 (rd x0_1 (ji4))))) ?hg ?ho ?hn ?hr ?_; (case ho => rfl); (case hg => rfl); (case hn => rfl); (case hr => first | (go_simp; done) | (go_simp; rfl)); intro w17 hw; have hg : wr.grownBy w17 (some go14) := (by rw [hw]; exact HP16.2); have hp_ : Kd.R (Kd.int .i64) 27 w17 w0.heap.size (fun k_ => (P0_ k_ ∨ w.heap.size ≤ k_)) (.slice (some ⟨go14, 0, none⟩) x0_1.length co15) y111 := (by rw [hw, Ny111.out]; exact HP16.1); clear HP16; have n0_ := Aside0.mk (hp_); have n1_ := Aside0.mk ((by rw [hw]; exact below_set (HB.out) GB14.out : Below w0.heap.size w0 w17)); have n2_ := Aside0.mk (Kept.of_grown (S := (fun k_ => P0_ k_)) hg (by repeat (first | (with_reducible first | exact HK.out | apply Kept.alloc | apply Kept.drewN | apply Kept.drew) | exact HK.out)) (fun k_ e_ => (HO_0.out.1 k_ e_))); clear HO_0; clear HB; clear HK; have HO_0 := n0_; have HB := n1_; have HK := n2_; clear n0_ n1_ n2_; clear hg hw hp_))
                        go_roundg k1
                        case measure => have := HK1.out; omega
                        case rel => exact ⟨(y111), (ji11), (by first | rfl | (simp; done) | (simp only [← hji11] <;> (first | rfl | simp)) | (simp [*]; done)), H', ⟨by have := HK1.out; omega⟩, ⟨by (with_reducible repeat (first | apply Kd.R_alloc | apply Kd.R_drewN | apply Kd.R_drew)); exact HO_0.out⟩, ⟨by repeat (first | (with_reducible first | exact HK.out | apply Kept.alloc | apply Kept.drewN | apply Kept.drew) | exact HK.out)⟩, ⟨by repeat (first | (with_reducible first | exact HB.out | apply below_alloc | apply pw_below_drewN | apply below_drew1) | exact HB.out)⟩⟩
                      · rw [if_neg c13] at H
                        have c13b0 : ((rd x0_1 (ji11)) == (rd x0_1 (ji4))) = false := beq_eq_false_iff_ne.mpr c13
                        have c13b1 : ((rd x0_1 (ji11)) != (rd x0_1 (ji4))) = true := bne_iff_ne.mpr c13
                        have H' := Aside0.mk H
                        clear H
                        obtain ⟨Ao18, co18, eo18⟩ := Kd.R_slice HO_0.out
                        subst eo18
                        have p108 : 0 ≤ ((ji4) : Int) := of_decide_eq_true (by first | (with_reducible assumption) | assumption)
                        have q108 : (ji4) < (x0_1.length : Int) := of_decide_eq_true (by first | (with_reducible assumption) | assumption)
                        obtain ⟨ad108, e108, hx108_0⟩ := Kd.at_int (Kd.R_reads' HO_0.out).2.2 (ji4) p108 q108
                        cases e108
                        replace p108 := eq_true p108
                        replace q108 := eq_true q108
                        have p109 : 0 ≤ (x4_1 : Int) := of_decide_eq_true (by first | (with_reducible assumption) | assumption)
                        have q109 : x4_1 < (x0_1.length : Int) := of_decide_eq_true (by first | (with_reducible assumption) | assumption)
                        obtain ⟨ad109, e109, hx109_0⟩ := Kd.at_int (Kd.R_reads' HO_0.out).2.2 x4_1 p109 q109
                        obtain rfl : ad108 = ad109 := (by injection e109)
                        replace p109 := eq_true p109
                        replace q109 := eq_true q109
                        have p110 : 0 ≤ ((ji11) : Int) := of_decide_eq_true (by first | (with_reducible assumption) | assumption)
                        have q110 : (ji11) < (x0_1.length : Int) := of_decide_eq_true (by first | (with_reducible assumption) | assumption)
                        obtain ⟨ad110, e110, hx110_0⟩ := Kd.at_int (Kd.R_reads' HO_0.out).2.2 (ji11) p110 q110
                        obtain rfl : ad108 = ad110 := (by injection e110)
                        replace p110 := eq_true p110
                        replace q110 := eq_true q110
                        go_wp2
                        go_roundg k1
                        case measure => have := HK1.out; omega
                        case rel => exact ⟨(x0_1), (ji11), (by first | rfl | (simp; done) | (simp only [← hji11] <;> (first | rfl | simp)) | (simp [*]; done)), H', ⟨by have := HK1.out; omega⟩, ⟨by (with_reducible repeat (first | apply Kd.R_alloc | apply Kd.R_drewN | apply Kd.R_drew)); exact HO_0.out⟩, ⟨by repeat (first | (with_reducible first | exact HK.out | apply Kept.alloc | apply Kept.drewN | apply Kept.drew) | exact HK.out)⟩, ⟨by repeat (first | (with_reducible first | exact HB.out | apply below_alloc | apply pw_below_drewN | apply below_drew1) | exact HB.out)⟩⟩
                    · rw [if_neg c12] at H
                      exact absurd H (by simp)
                  · rw [if_neg c10] at H
                    have c10b0 : ((rd x0_1 x4_1) == 4) = false := beq_eq_false_iff_ne.mpr c10
                    have c10b1 : ((rd x0_1 x4_1) != 4) = true := bne_iff_ne.mpr c10
                    by_cases c19 : (rd x0_1 x4_1) = 7
                    · rw [if_pos c19] at H
                      have c19b0 : ((rd x0_1 x4_1) == 7) = true := beq_iff_eq.mpr c19
                      have c19b1 : ((rd x0_1 x4_1) != 7) = false := bne_eq_false_iff_eq.mpr c19
                      clear c19
                      obtain ⟨ji20, hji20⟩ : ∃ j_ : Int, (wrap64 (x4_1 + 1)) = j_ := ⟨_, rfl⟩
                      replace H : (if 0 ≤ (ji20) then (if (rd x0_1 (ji20)) = (rd x0_1 (ji4)) then (weak_separators.l0 k1 (x0_1.set (x4_1 : Int).toNat (rd x0_1 (ji4))) ji20) else (weak_separators.l0 k1 x0_1 ji20)) else (none)) = some r := by first | (rw [hji20] at H; exact H) | (simp only [hji20] at H ⊢; exact H)
                      (try rw [hji20] at c3b0)
                      have hji20w : (IntKind.i64.wrap (x4_1 + 1)) = ji20 := (i64_w _).trans hji20
                      by_cases c21 : 0 ≤ (ji20)
                      · rw [if_pos c21] at H
                        have c21b0 : decide (0 ≤ (ji20)) = true := decide_eq_true c21
                        clear c21
                        by_cases c22 : (rd x0_1 (ji20)) = (rd x0_1 (ji4))
                        · rw [if_pos c22] at H
                          have c22b0 : ((rd x0_1 (ji20)) == (rd x0_1 (ji4))) = true := beq_iff_eq.mpr c22
                          have c22b1 : ((rd x0_1 (ji20)) != (rd x0_1 (ji4))) = false := bne_eq_false_iff_eq.mpr c22
                          clear c22
                          obtain ⟨y114, hy114⟩ : ∃ y_ : List Int, y_ = (x0_1.set (x4_1 : Int).toNat (rd x0_1 (ji4))) := ⟨_, rfl⟩
                          replace H : (weak_separators.l0 k1 y114 ji20) = some r := by first | (rw [hy114]; with_reducible exact H) | (have H2_ := (Option.bind_some _ _).symm.trans H; rw [hy114]; with_reducible exact H2_) | (have H2_ := (Option.bind_some _ _).symm.trans H; with_reducible exact H2_) | with_reducible exact H | (rw [hy114]; exact H) | exact H
                          have Ny114 := Aside0.mk hy114
                          clear hy114
                          have H' := Aside0.mk H
                          clear H
                          obtain ⟨Ao24, co24, eo24⟩ := Kd.R_slice HO_0.out
                          subst eo24
                          have p108 : 0 ≤ ((ji4) : Int) := of_decide_eq_true (by first | (with_reducible assumption) | assumption)
                          have q108 : (ji4) < (x0_1.length : Int) := of_decide_eq_true (by first | (with_reducible assumption) | assumption)
                          obtain ⟨ad108, e108, hx108_0⟩ := Kd.at_int (Kd.R_reads' HO_0.out).2.2 (ji4) p108 q108
                          cases e108
                          replace p108 := eq_true p108
                          replace q108 := eq_true q108
                          have p109 : 0 ≤ (x4_1 : Int) := of_decide_eq_true (by first | (with_reducible assumption) | assumption)
                          have q109 : x4_1 < (x0_1.length : Int) := of_decide_eq_true (by first | (with_reducible assumption) | assumption)
                          obtain ⟨ad109, e109, hx109_0⟩ := Kd.at_int (Kd.R_reads' HO_0.out).2.2 x4_1 p109 q109
                          obtain rfl : ad108 = ad109 := (by injection e109)
                          replace p109 := eq_true p109
                          replace q109 := eq_true q109
                          have p112 : 0 ≤ (x4_1 : Int) := of_decide_eq_true (by first | (with_reducible assumption) | assumption)
                          have q112 : x4_1 < (x0_1.length : Int) := of_decide_eq_true (by first | (with_reducible assumption) | assumption)
                          obtain ⟨ad112, e112, hx112_0⟩ := Kd.at_int (Kd.R_reads' HO_0.out).2.2 x4_1 p112 q112
                          obtain rfl : ad108 = ad112 := (by injection e112)
                          replace p112 := eq_true p112
                          replace q112 := eq_true q112
                          have p113 : 0 ≤ ((ji20) : Int) := of_decide_eq_true (by first | (with_reducible assumption) | assumption)
                          have q113 : (ji20) < (x0_1.length : Int) := of_decide_eq_true (by first | (with_reducible assumption) | assumption)
                          obtain ⟨ad113, e113, hx113_0⟩ := Kd.at_int (Kd.R_reads' HO_0.out).2.2 (ji20) p113 q113
                          obtain rfl : ad108 = ad113 := (by injection e113)
                          replace p113 := eq_true p113
                          replace q113 := eq_true q113
                          have p23 : 0 ≤ (x4_1 : Int) := of_decide_eq_true (by first | (with_reducible assumption) | assumption)
                          have q23 : (x4_1 : Int) < ((x0_1.length : Int) : Int) := of_decide_eq_true (by first | (with_reducible assumption) | assumption)
                          obtain ⟨go23, co23, eo23, gb23, gl23, cl23, HG23⟩ := Kd.R_form HO_0.out (by omega)
                          (first | cases eo23 | (injection eo23 with ea_ en_ ec_; (first | subst ea_ | (injection ea_ with ea_; subst ea_)); subst ec_; clear en_))
                          have GB23 := Aside0.mk gb23
                          have GG23 := Aside0.mk HG23
                          clear gb23 gl23 HG23
                          have HMgo23 := Aside0.mk (show (P0_ go23 ∨ w.heap.size ≤ go23) from (HO_0.out.1 _ rfl))
                          (first | simp only [add_plain] at hx108_0 | skip)
                          (first | simp only [add_plain] at hx109_0 | skip)
                          (first | simp only [add_plain] at hx110_0 | skip)
                          (first | simp only [add_plain] at hx112_0 | skip)
                          (first | simp only [add_plain] at hx113_0 | skip)
                          obtain ⟨hx23_0, hf23_0⟩ := Kd.R_celln 0 HO_0.out (x4_1 : Int) p23 q23
                          replace p23 := eq_true p23
                          replace q23 := eq_true q23
                          have HP25 := Kd.R_putg HO_0.out (x4_1 : Int) (rd x0_1 (ji4))
                          go_wp2_with (first | ((with_reducible refine gate_store (t := 27) (p := 59) rfl ?_); refine store_event (t := 27) (p := 59) (v := ?vo_w26) (w1 := (wr.setCell ⟨go23, (x4_1 : Int).toNat, none⟩ (.int .i64 (rd x0_1 (ji4))))) ?hg ?ho ?hn ?hr ?_; (case ho => rfl); (case hg => rfl); (case hn => rfl); (case hr => first | (go_simp; done) | (go_simp; rfl)); intro w26 hw; have hg : wr.grownBy w26 (some go23) := (by rw [hw]; exact HP25.2); have hp_ : Kd.R (Kd.int .i64) 27 w26 w0.heap.size (fun k_ => (P0_ k_ ∨ w.heap.size ≤ k_)) (.slice (some ⟨go23, 0, none⟩) x0_1.length co24) y114 := (by rw [hw, Ny114.out]; exact HP25.1); clear HP25; have n0_ := Aside0.mk (hp_); have n1_ := Aside0.mk ((by rw [hw]; exact below_set (HB.out) GB23.out : Below w0.heap.size w0 w26)); have n2_ := Aside0.mk (Kept.of_grown (S := (fun k_ => P0_ k_)) hg (by repeat (first | (with_reducible first | exact HK.out | apply Kept.alloc | apply Kept.drewN | apply Kept.drew) | exact HK.out)) (fun k_ e_ => (HO_0.out.1 k_ e_))); clear HO_0; clear HB; clear HK; have HO_0 := n0_; have HB := n1_; have HK := n2_; clear n0_ n1_ n2_; clear hg hw hp_))
                          go_roundg k1
                          case measure => have := HK1.out; omega
                          case rel => exact ⟨(y114), (ji20), (by first | rfl | (simp; done) | (simp only [← hji20] <;> (first | rfl | simp)) | (simp [*]; done)), H', ⟨by have := HK1.out; omega⟩, ⟨by (with_reducible repeat (first | apply Kd.R_alloc | apply Kd.R_drewN | apply Kd.R_drew)); exact HO_0.out⟩, ⟨by repeat (first | (with_reducible first | exact HK.out | apply Kept.alloc | apply Kept.drewN | apply Kept.drew) | exact HK.out)⟩, ⟨by repeat (first | (with_reducible first | exact HB.out | apply below_alloc | apply pw_below_drewN | apply below_drew1) | exact HB.out)⟩⟩
                        · rw [if_neg c22] at H
                          have c22b0 : ((rd x0_1 (ji20)) == (rd x0_1 (ji4))) = false := beq_eq_false_iff_ne.mpr c22
                          have c22b1 : ((rd x0_1 (ji20)) != (rd x0_1 (ji4))) = true := bne_iff_ne.mpr c22
                          have H' := Aside0.mk H
                          clear H
                          obtain ⟨Ao27, co27, eo27⟩ := Kd.R_slice HO_0.out
                          subst eo27
                          have p108 : 0 ≤ ((ji4) : Int) := of_decide_eq_true (by first | (with_reducible assumption) | assumption)
                          have q108 : (ji4) < (x0_1.length : Int) := of_decide_eq_true (by first | (with_reducible assumption) | assumption)
                          obtain ⟨ad108, e108, hx108_0⟩ := Kd.at_int (Kd.R_reads' HO_0.out).2.2 (ji4) p108 q108
                          cases e108
                          replace p108 := eq_true p108
                          replace q108 := eq_true q108
                          have p109 : 0 ≤ (x4_1 : Int) := of_decide_eq_true (by first | (with_reducible assumption) | assumption)
                          have q109 : x4_1 < (x0_1.length : Int) := of_decide_eq_true (by first | (with_reducible assumption) | assumption)
                          obtain ⟨ad109, e109, hx109_0⟩ := Kd.at_int (Kd.R_reads' HO_0.out).2.2 x4_1 p109 q109
                          obtain rfl : ad108 = ad109 := (by injection e109)
                          replace p109 := eq_true p109
                          replace q109 := eq_true q109
                          have p112 : 0 ≤ (x4_1 : Int) := of_decide_eq_true (by first | (with_reducible assumption) | assumption)
                          have q112 : x4_1 < (x0_1.length : Int) := of_decide_eq_true (by first | (with_reducible assumption) | assumption)
                          obtain ⟨ad112, e112, hx112_0⟩ := Kd.at_int (Kd.R_reads' HO_0.out).2.2 x4_1 p112 q112
                          obtain rfl : ad108 = ad112 := (by injection e112)
                          replace p112 := eq_true p112
                          replace q112 := eq_true q112
                          have p113 : 0 ≤ ((ji20) : Int) := of_decide_eq_true (by first | (with_reducible assumption) | assumption)
                          have q113 : (ji20) < (x0_1.length : Int) := of_decide_eq_true (by first | (with_reducible assumption) | assumption)
                          obtain ⟨ad113, e113, hx113_0⟩ := Kd.at_int (Kd.R_reads' HO_0.out).2.2 (ji20) p113 q113
                          obtain rfl : ad108 = ad113 := (by injection e113)
                          replace p113 := eq_true p113
                          replace q113 := eq_true q113
                          go_wp2
                          go_roundg k1
                          case measure => have := HK1.out; omega
                          case rel => exact ⟨(x0_1), (ji20), (by first | rfl | (simp; done) | (simp only [← hji20] <;> (first | rfl | simp)) | (simp [*]; done)), H', ⟨by have := HK1.out; omega⟩, ⟨by (with_reducible repeat (first | apply Kd.R_alloc | apply Kd.R_drewN | apply Kd.R_drew)); exact HO_0.out⟩, ⟨by repeat (first | (with_reducible first | exact HK.out | apply Kept.alloc | apply Kept.drewN | apply Kept.drew) | exact HK.out)⟩, ⟨by repeat (first | (with_reducible first | exact HB.out | apply below_alloc | apply pw_below_drewN | apply below_drew1) | exact HB.out)⟩⟩
                      · rw [if_neg c21] at H
                        exact absurd H (by simp)
                    · rw [if_neg c19] at H
                      have c19b0 : ((rd x0_1 x4_1) == 7) = false := beq_eq_false_iff_ne.mpr c19
                      have c19b1 : ((rd x0_1 x4_1) != 7) = true := bne_iff_ne.mpr c19
                      have H' := Aside0.mk H
                      clear H
                      obtain ⟨Ao28, co28, eo28⟩ := Kd.R_slice HO_0.out
                      subst eo28
                      have p108 : 0 ≤ ((ji4) : Int) := of_decide_eq_true (by first | (with_reducible assumption) | assumption)
                      have q108 : (ji4) < (x0_1.length : Int) := of_decide_eq_true (by first | (with_reducible assumption) | assumption)
                      obtain ⟨ad108, e108, hx108_0⟩ := Kd.at_int (Kd.R_reads' HO_0.out).2.2 (ji4) p108 q108
                      cases e108
                      replace p108 := eq_true p108
                      replace q108 := eq_true q108
                      have p109 : 0 ≤ (x4_1 : Int) := of_decide_eq_true (by first | (with_reducible assumption) | assumption)
                      have q109 : x4_1 < (x0_1.length : Int) := of_decide_eq_true (by first | (with_reducible assumption) | assumption)
                      obtain ⟨ad109, e109, hx109_0⟩ := Kd.at_int (Kd.R_reads' HO_0.out).2.2 x4_1 p109 q109
                      obtain rfl : ad108 = ad109 := (by injection e109)
                      replace p109 := eq_true p109
                      replace q109 := eq_true q109
                      have p112 : 0 ≤ (x4_1 : Int) := of_decide_eq_true (by first | (with_reducible assumption) | assumption)
                      have q112 : x4_1 < (x0_1.length : Int) := of_decide_eq_true (by first | (with_reducible assumption) | assumption)
                      obtain ⟨ad112, e112, hx112_0⟩ := Kd.at_int (Kd.R_reads' HO_0.out).2.2 x4_1 p112 q112
                      obtain rfl : ad108 = ad112 := (by injection e112)
                      replace p112 := eq_true p112
                      replace q112 := eq_true q112
                      go_wp2
                      go_roundg k1
                      case measure => have := HK1.out; omega
                      case rel => exact ⟨(x0_1), (wrap64 (x4_1 + 1)), (by first | rfl | (simp; done) | (simp [*]; done)), H', ⟨by have := HK1.out; omega⟩, ⟨by (with_reducible repeat (first | apply Kd.R_alloc | apply Kd.R_drewN | apply Kd.R_drew)); exact HO_0.out⟩, ⟨by repeat (first | (with_reducible first | exact HK.out | apply Kept.alloc | apply Kept.drewN | apply Kept.drew) | exact HK.out)⟩, ⟨by repeat (first | (with_reducible first | exact HB.out | apply below_alloc | apply pw_below_drewN | apply below_drew1) | exact HB.out)⟩⟩
                · rw [if_neg c9] at H
                  exact absurd H (by simp)
              · rw [if_neg c8] at H
                exact absurd H (by simp)
            · rw [if_neg c7] at H
              have c7b0 : ((rd x0_1 (ji4)) == 3) = false := beq_eq_false_iff_ne.mpr c7
              have c7b1 : ((rd x0_1 (ji4)) != 3) = true := bne_iff_ne.mpr c7
              by_cases c29 : (rd x0_1 (ji4)) = 6
              · rw [if_pos c29] at H
                have c29b0 : ((rd x0_1 (ji4)) == 6) = true := beq_iff_eq.mpr c29
                have c29b1 : ((rd x0_1 (ji4)) != 6) = false := bne_eq_false_iff_eq.mpr c29
                clear c29
                by_cases c30 : 0 ≤ x4_1
                · rw [if_pos c30] at H
                  have c30b0 : decide (0 ≤ x4_1) = true := decide_eq_true c30
                  clear c30
                  by_cases c31 : x4_1 < (x0_1.length : Int)
                  · rw [if_pos c31] at H
                    have c31b0 : decide (x4_1 < (x0_1.length : Int)) = true := decide_eq_true c31
                    clear c31
                    by_cases c32 : (rd x0_1 x4_1) = 4
                    · rw [if_pos c32] at H
                      have c32b0 : ((rd x0_1 x4_1) == 4) = true := beq_iff_eq.mpr c32
                      have c32b1 : ((rd x0_1 x4_1) != 4) = false := bne_eq_false_iff_eq.mpr c32
                      clear c32
                      by_cases c33 : (rd x0_1 x4_1) = 7
                      · rw [if_pos c33] at H
                        have c33b0 : ((rd x0_1 x4_1) == 7) = true := beq_iff_eq.mpr c33
                        have c33b1 : ((rd x0_1 x4_1) != 7) = false := bne_eq_false_iff_eq.mpr c33
                        clear c33
                        obtain ⟨ji34, hji34⟩ : ∃ j_ : Int, (wrap64 (x4_1 + 1)) = j_ := ⟨_, rfl⟩
                        replace H : (if 0 ≤ (ji34) then (if (rd x0_1 (ji34)) = (rd x0_1 (ji4)) then (weak_separators.l0 k1 (x0_1.set (x4_1 : Int).toNat (rd x0_1 (ji4))) ji34) else (weak_separators.l0 k1 x0_1 ji34)) else (none)) = some r := by first | (rw [hji34] at H; exact H) | (simp only [hji34] at H ⊢; exact H)
                        (try rw [hji34] at c3b0)
                        have hji34w : (IntKind.i64.wrap (x4_1 + 1)) = ji34 := (i64_w _).trans hji34
                        by_cases c35 : 0 ≤ (ji34)
                        · rw [if_pos c35] at H
                          have c35b0 : decide (0 ≤ (ji34)) = true := decide_eq_true c35
                          clear c35
                          by_cases c36 : (rd x0_1 (ji34)) = (rd x0_1 (ji4))
                          · rw [if_pos c36] at H
                            have c36b0 : ((rd x0_1 (ji34)) == (rd x0_1 (ji4))) = true := beq_iff_eq.mpr c36
                            have c36b1 : ((rd x0_1 (ji34)) != (rd x0_1 (ji4))) = false := bne_eq_false_iff_eq.mpr c36
                            clear c36
                            obtain ⟨y118, hy118⟩ : ∃ y_ : List Int, y_ = (x0_1.set (x4_1 : Int).toNat (rd x0_1 (ji4))) := ⟨_, rfl⟩
                            replace H : (weak_separators.l0 k1 y118 ji34) = some r := by first | (rw [hy118]; with_reducible exact H) | (have H2_ := (Option.bind_some _ _).symm.trans H; rw [hy118]; with_reducible exact H2_) | (have H2_ := (Option.bind_some _ _).symm.trans H; with_reducible exact H2_) | with_reducible exact H | (rw [hy118]; exact H) | exact H
                            have Ny118 := Aside0.mk hy118
                            clear hy118
                            have H' := Aside0.mk H
                            clear H
                            obtain ⟨Ao38, co38, eo38⟩ := Kd.R_slice HO_0.out
                            subst eo38
                            have p108 : 0 ≤ ((ji4) : Int) := of_decide_eq_true (by first | (with_reducible assumption) | assumption)
                            have q108 : (ji4) < (x0_1.length : Int) := of_decide_eq_true (by first | (with_reducible assumption) | assumption)
                            obtain ⟨ad108, e108, hx108_0⟩ := Kd.at_int (Kd.R_reads' HO_0.out).2.2 (ji4) p108 q108
                            cases e108
                            replace p108 := eq_true p108
                            replace q108 := eq_true q108
                            have p115 : 0 ≤ (x4_1 : Int) := of_decide_eq_true (by first | (with_reducible assumption) | assumption)
                            have q115 : x4_1 < (x0_1.length : Int) := of_decide_eq_true (by first | (with_reducible assumption) | assumption)
                            obtain ⟨ad115, e115, hx115_0⟩ := Kd.at_int (Kd.R_reads' HO_0.out).2.2 x4_1 p115 q115
                            obtain rfl : ad108 = ad115 := (by injection e115)
                            replace p115 := eq_true p115
                            replace q115 := eq_true q115
                            have p116 : 0 ≤ (x4_1 : Int) := of_decide_eq_true (by first | (with_reducible assumption) | assumption)
                            have q116 : x4_1 < (x0_1.length : Int) := of_decide_eq_true (by first | (with_reducible assumption) | assumption)
                            obtain ⟨ad116, e116, hx116_0⟩ := Kd.at_int (Kd.R_reads' HO_0.out).2.2 x4_1 p116 q116
                            obtain rfl : ad108 = ad116 := (by injection e116)
                            replace p116 := eq_true p116
                            replace q116 := eq_true q116
                            have p117 : 0 ≤ ((ji34) : Int) := of_decide_eq_true (by first | (with_reducible assumption) | assumption)
                            have q117 : (ji34) < (x0_1.length : Int) := of_decide_eq_true (by first | (with_reducible assumption) | assumption)
                            obtain ⟨ad117, e117, hx117_0⟩ := Kd.at_int (Kd.R_reads' HO_0.out).2.2 (ji34) p117 q117
                            obtain rfl : ad108 = ad117 := (by injection e117)
                            replace p117 := eq_true p117
                            replace q117 := eq_true q117
                            have p37 : 0 ≤ (x4_1 : Int) := of_decide_eq_true (by first | (with_reducible assumption) | assumption)
                            have q37 : (x4_1 : Int) < ((x0_1.length : Int) : Int) := of_decide_eq_true (by first | (with_reducible assumption) | assumption)
                            obtain ⟨go37, co37, eo37, gb37, gl37, cl37, HG37⟩ := Kd.R_form HO_0.out (by omega)
                            (first | cases eo37 | (injection eo37 with ea_ en_ ec_; (first | subst ea_ | (injection ea_ with ea_; subst ea_)); subst ec_; clear en_))
                            have GB37 := Aside0.mk gb37
                            have GG37 := Aside0.mk HG37
                            clear gb37 gl37 HG37
                            have HMgo37 := Aside0.mk (show (P0_ go37 ∨ w.heap.size ≤ go37) from (HO_0.out.1 _ rfl))
                            (first | simp only [add_plain] at hx108_0 | skip)
                            (first | simp only [add_plain] at hx109_0 | skip)
                            (first | simp only [add_plain] at hx112_0 | skip)
                            (first | simp only [add_plain] at hx113_0 | skip)
                            (first | simp only [add_plain] at hx115_0 | skip)
                            (first | simp only [add_plain] at hx116_0 | skip)
                            (first | simp only [add_plain] at hx117_0 | skip)
                            obtain ⟨hx37_0, hf37_0⟩ := Kd.R_celln 0 HO_0.out (x4_1 : Int) p37 q37
                            replace p37 := eq_true p37
                            replace q37 := eq_true q37
                            have HP39 := Kd.R_putg HO_0.out (x4_1 : Int) (rd x0_1 (ji4))
                            go_wp2_with (first | ((with_reducible refine gate_store (t := 27) (p := 59) rfl ?_); refine store_event (t := 27) (p := 59) (v := ?vo_w40) (w1 := (wr.setCell ⟨go37, (x4_1 : Int).toNat, none⟩ (.int .i64 (rd x0_1 (ji4))))) ?hg ?ho ?hn ?hr ?_; (case ho => rfl); (case hg => rfl); (case hn => rfl); (case hr => first | (go_simp; done) | (go_simp; rfl)); intro w40 hw; have hg : wr.grownBy w40 (some go37) := (by rw [hw]; exact HP39.2); have hp_ : Kd.R (Kd.int .i64) 27 w40 w0.heap.size (fun k_ => (P0_ k_ ∨ w.heap.size ≤ k_)) (.slice (some ⟨go37, 0, none⟩) x0_1.length co38) y118 := (by rw [hw, Ny118.out]; exact HP39.1); clear HP39; have n0_ := Aside0.mk (hp_); have n1_ := Aside0.mk ((by rw [hw]; exact below_set (HB.out) GB37.out : Below w0.heap.size w0 w40)); have n2_ := Aside0.mk (Kept.of_grown (S := (fun k_ => P0_ k_)) hg (by repeat (first | (with_reducible first | exact HK.out | apply Kept.alloc | apply Kept.drewN | apply Kept.drew) | exact HK.out)) (fun k_ e_ => (HO_0.out.1 k_ e_))); clear HO_0; clear HB; clear HK; have HO_0 := n0_; have HB := n1_; have HK := n2_; clear n0_ n1_ n2_; clear hg hw hp_))
                            go_roundg k1
                            case measure => have := HK1.out; omega
                            case rel => exact ⟨(y118), (ji34), (by first | rfl | (simp; done) | (simp only [← hji34] <;> (first | rfl | simp)) | (simp [*]; done)), H', ⟨by have := HK1.out; omega⟩, ⟨by (with_reducible repeat (first | apply Kd.R_alloc | apply Kd.R_drewN | apply Kd.R_drew)); exact HO_0.out⟩, ⟨by repeat (first | (with_reducible first | exact HK.out | apply Kept.alloc | apply Kept.drewN | apply Kept.drew) | exact HK.out)⟩, ⟨by repeat (first | (with_reducible first | exact HB.out | apply below_alloc | apply pw_below_drewN | apply below_drew1) | exact HB.out)⟩⟩
                          · rw [if_neg c36] at H
                            have c36b0 : ((rd x0_1 (ji34)) == (rd x0_1 (ji4))) = false := beq_eq_false_iff_ne.mpr c36
                            have c36b1 : ((rd x0_1 (ji34)) != (rd x0_1 (ji4))) = true := bne_iff_ne.mpr c36
                            have H' := Aside0.mk H
                            clear H
                            obtain ⟨Ao41, co41, eo41⟩ := Kd.R_slice HO_0.out
                            subst eo41
                            have p108 : 0 ≤ ((ji4) : Int) := of_decide_eq_true (by first | (with_reducible assumption) | assumption)
                            have q108 : (ji4) < (x0_1.length : Int) := of_decide_eq_true (by first | (with_reducible assumption) | assumption)
                            obtain ⟨ad108, e108, hx108_0⟩ := Kd.at_int (Kd.R_reads' HO_0.out).2.2 (ji4) p108 q108
                            cases e108
                            replace p108 := eq_true p108
                            replace q108 := eq_true q108
                            have p115 : 0 ≤ (x4_1 : Int) := of_decide_eq_true (by first | (with_reducible assumption) | assumption)
                            have q115 : x4_1 < (x0_1.length : Int) := of_decide_eq_true (by first | (with_reducible assumption) | assumption)
                            obtain ⟨ad115, e115, hx115_0⟩ := Kd.at_int (Kd.R_reads' HO_0.out).2.2 x4_1 p115 q115
                            obtain rfl : ad108 = ad115 := (by injection e115)
                            replace p115 := eq_true p115
                            replace q115 := eq_true q115
                            have p116 : 0 ≤ (x4_1 : Int) := of_decide_eq_true (by first | (with_reducible assumption) | assumption)
                            have q116 : x4_1 < (x0_1.length : Int) := of_decide_eq_true (by first | (with_reducible assumption) | assumption)
                            obtain ⟨ad116, e116, hx116_0⟩ := Kd.at_int (Kd.R_reads' HO_0.out).2.2 x4_1 p116 q116
                            obtain rfl : ad108 = ad116 := (by injection e116)
                            replace p116 := eq_true p116
                            replace q116 := eq_true q116
                            have p117 : 0 ≤ ((ji34) : Int) := of_decide_eq_true (by first | (with_reducible assumption) | assumption)
                            have q117 : (ji34) < (x0_1.length : Int) := of_decide_eq_true (by first | (with_reducible assumption) | assumption)
                            obtain ⟨ad117, e117, hx117_0⟩ := Kd.at_int (Kd.R_reads' HO_0.out).2.2 (ji34) p117 q117
                            obtain rfl : ad108 = ad117 := (by injection e117)
                            replace p117 := eq_true p117
                            replace q117 := eq_true q117
                            go_wp2
                            go_roundg k1
                            case measure => have := HK1.out; omega
                            case rel => exact ⟨(x0_1), (ji34), (by first | rfl | (simp; done) | (simp only [← hji34] <;> (first | rfl | simp)) | (simp [*]; done)), H', ⟨by have := HK1.out; omega⟩, ⟨by (with_reducible repeat (first | apply Kd.R_alloc | apply Kd.R_drewN | apply Kd.R_drew)); exact HO_0.out⟩, ⟨by repeat (first | (with_reducible first | exact HK.out | apply Kept.alloc | apply Kept.drewN | apply Kept.drew) | exact HK.out)⟩, ⟨by repeat (first | (with_reducible first | exact HB.out | apply below_alloc | apply pw_below_drewN | apply below_drew1) | exact HB.out)⟩⟩
                        · rw [if_neg c35] at H
                          exact absurd H (by simp)
                      · rw [if_neg c33] at H
                        have c33b0 : ((rd x0_1 x4_1) == 7) = false := beq_eq_false_iff_ne.mpr c33
                        have c33b1 : ((rd x0_1 x4_1) != 7) = true := bne_iff_ne.mpr c33
                        have H' := Aside0.mk H
                        clear H
                        obtain ⟨Ao42, co42, eo42⟩ := Kd.R_slice HO_0.out
                        subst eo42
                        have p108 : 0 ≤ ((ji4) : Int) := of_decide_eq_true (by first | (with_reducible assumption) | assumption)
                        have q108 : (ji4) < (x0_1.length : Int) := of_decide_eq_true (by first | (with_reducible assumption) | assumption)
                        obtain ⟨ad108, e108, hx108_0⟩ := Kd.at_int (Kd.R_reads' HO_0.out).2.2 (ji4) p108 q108
                        cases e108
                        replace p108 := eq_true p108
                        replace q108 := eq_true q108
                        have p115 : 0 ≤ (x4_1 : Int) := of_decide_eq_true (by first | (with_reducible assumption) | assumption)
                        have q115 : x4_1 < (x0_1.length : Int) := of_decide_eq_true (by first | (with_reducible assumption) | assumption)
                        obtain ⟨ad115, e115, hx115_0⟩ := Kd.at_int (Kd.R_reads' HO_0.out).2.2 x4_1 p115 q115
                        obtain rfl : ad108 = ad115 := (by injection e115)
                        replace p115 := eq_true p115
                        replace q115 := eq_true q115
                        have p116 : 0 ≤ (x4_1 : Int) := of_decide_eq_true (by first | (with_reducible assumption) | assumption)
                        have q116 : x4_1 < (x0_1.length : Int) := of_decide_eq_true (by first | (with_reducible assumption) | assumption)
                        obtain ⟨ad116, e116, hx116_0⟩ := Kd.at_int (Kd.R_reads' HO_0.out).2.2 x4_1 p116 q116
                        obtain rfl : ad108 = ad116 := (by injection e116)
                        replace p116 := eq_true p116
                        replace q116 := eq_true q116
                        go_wp2
                        go_roundg k1
                        case measure => have := HK1.out; omega
                        case rel => exact ⟨(x0_1), (wrap64 (x4_1 + 1)), (by first | rfl | (simp; done) | (simp [*]; done)), H', ⟨by have := HK1.out; omega⟩, ⟨by (with_reducible repeat (first | apply Kd.R_alloc | apply Kd.R_drewN | apply Kd.R_drew)); exact HO_0.out⟩, ⟨by repeat (first | (with_reducible first | exact HK.out | apply Kept.alloc | apply Kept.drewN | apply Kept.drew) | exact HK.out)⟩, ⟨by repeat (first | (with_reducible first | exact HB.out | apply below_alloc | apply pw_below_drewN | apply below_drew1) | exact HB.out)⟩⟩
                    · rw [if_neg c32] at H
                      have c32b0 : ((rd x0_1 x4_1) == 4) = false := beq_eq_false_iff_ne.mpr c32
                      have c32b1 : ((rd x0_1 x4_1) != 4) = true := bne_iff_ne.mpr c32
                      by_cases c43 : (rd x0_1 x4_1) = 7
                      · rw [if_pos c43] at H
                        have c43b0 : ((rd x0_1 x4_1) == 7) = true := beq_iff_eq.mpr c43
                        have c43b1 : ((rd x0_1 x4_1) != 7) = false := bne_eq_false_iff_eq.mpr c43
                        clear c43
                        obtain ⟨ji44, hji44⟩ : ∃ j_ : Int, (wrap64 (x4_1 + 1)) = j_ := ⟨_, rfl⟩
                        replace H : (if 0 ≤ (ji44) then (if (rd x0_1 (ji44)) = (rd x0_1 (ji4)) then (weak_separators.l0 k1 (x0_1.set (x4_1 : Int).toNat (rd x0_1 (ji4))) ji44) else (weak_separators.l0 k1 x0_1 ji44)) else (none)) = some r := by first | (rw [hji44] at H; exact H) | (simp only [hji44] at H ⊢; exact H)
                        (try rw [hji44] at c3b0)
                        have hji44w : (IntKind.i64.wrap (x4_1 + 1)) = ji44 := (i64_w _).trans hji44
                        by_cases c45 : 0 ≤ (ji44)
                        · rw [if_pos c45] at H
                          have c45b0 : decide (0 ≤ (ji44)) = true := decide_eq_true c45
                          clear c45
                          by_cases c46 : (rd x0_1 (ji44)) = (rd x0_1 (ji4))
                          · rw [if_pos c46] at H
                            have c46b0 : ((rd x0_1 (ji44)) == (rd x0_1 (ji4))) = true := beq_iff_eq.mpr c46
                            have c46b1 : ((rd x0_1 (ji44)) != (rd x0_1 (ji4))) = false := bne_eq_false_iff_eq.mpr c46
                            clear c46
                            obtain ⟨y121, hy121⟩ : ∃ y_ : List Int, y_ = (x0_1.set (x4_1 : Int).toNat (rd x0_1 (ji4))) := ⟨_, rfl⟩
                            replace H : (weak_separators.l0 k1 y121 ji44) = some r := by first | (rw [hy121]; with_reducible exact H) | (have H2_ := (Option.bind_some _ _).symm.trans H; rw [hy121]; with_reducible exact H2_) | (have H2_ := (Option.bind_some _ _).symm.trans H; with_reducible exact H2_) | with_reducible exact H | (rw [hy121]; exact H) | exact H
                            have Ny121 := Aside0.mk hy121
                            clear hy121
                            have H' := Aside0.mk H
                            clear H
                            obtain ⟨Ao48, co48, eo48⟩ := Kd.R_slice HO_0.out
                            subst eo48
                            have p108 : 0 ≤ ((ji4) : Int) := of_decide_eq_true (by first | (with_reducible assumption) | assumption)
                            have q108 : (ji4) < (x0_1.length : Int) := of_decide_eq_true (by first | (with_reducible assumption) | assumption)
                            obtain ⟨ad108, e108, hx108_0⟩ := Kd.at_int (Kd.R_reads' HO_0.out).2.2 (ji4) p108 q108
                            cases e108
                            replace p108 := eq_true p108
                            replace q108 := eq_true q108
                            have p115 : 0 ≤ (x4_1 : Int) := of_decide_eq_true (by first | (with_reducible assumption) | assumption)
                            have q115 : x4_1 < (x0_1.length : Int) := of_decide_eq_true (by first | (with_reducible assumption) | assumption)
                            obtain ⟨ad115, e115, hx115_0⟩ := Kd.at_int (Kd.R_reads' HO_0.out).2.2 x4_1 p115 q115
                            obtain rfl : ad108 = ad115 := (by injection e115)
                            replace p115 := eq_true p115
                            replace q115 := eq_true q115
                            have p116 : 0 ≤ (x4_1 : Int) := of_decide_eq_true (by first | (with_reducible assumption) | assumption)
                            have q116 : x4_1 < (x0_1.length : Int) := of_decide_eq_true (by first | (with_reducible assumption) | assumption)
                            obtain ⟨ad116, e116, hx116_0⟩ := Kd.at_int (Kd.R_reads' HO_0.out).2.2 x4_1 p116 q116
                            obtain rfl : ad108 = ad116 := (by injection e116)
                            replace p116 := eq_true p116
                            replace q116 := eq_true q116
                            have p119 : 0 ≤ (x4_1 : Int) := of_decide_eq_true (by first | (with_reducible assumption) | assumption)
                            have q119 : x4_1 < (x0_1.length : Int) := of_decide_eq_true (by first | (with_reducible assumption) | assumption)
                            obtain ⟨ad119, e119, hx119_0⟩ := Kd.at_int (Kd.R_reads' HO_0.out).2.2 x4_1 p119 q119
                            obtain rfl : ad108 = ad119 := (by injection e119)
                            replace p119 := eq_true p119
                            replace q119 := eq_true q119
                            have p120 : 0 ≤ ((ji44) : Int) := of_decide_eq_true (by first | (with_reducible assumption) | assumption)
                            have q120 : (ji44) < (x0_1.length : Int) := of_decide_eq_true (by first | (with_reducible assumption) | assumption)
                            obtain ⟨ad120, e120, hx120_0⟩ := Kd.at_int (Kd.R_reads' HO_0.out).2.2 (ji44) p120 q120
                            obtain rfl : ad108 = ad120 := (by injection e120)
                            replace p120 := eq_true p120
                            replace q120 := eq_true q120
                            have p47 : 0 ≤ (x4_1 : Int) := of_decide_eq_true (by first | (with_reducible assumption) | assumption)
                            have q47 : (x4_1 : Int) < ((x0_1.length : Int) : Int) := of_decide_eq_true (by first | (with_reducible assumption) | assumption)
                            obtain ⟨go47, co47, eo47, gb47, gl47, cl47, HG47⟩ := Kd.R_form HO_0.out (by omega)
                            (first | cases eo47 | (injection eo47 with ea_ en_ ec_; (first | subst ea_ | (injection ea_ with ea_; subst ea_)); subst ec_; clear en_))
                            have GB47 := Aside0.mk gb47
                            have GG47 := Aside0.mk HG47
                            clear gb47 gl47 HG47
                            have HMgo47 := Aside0.mk (show (P0_ go47 ∨ w.heap.size ≤ go47) from (HO_0.out.1 _ rfl))
                            (first | simp only [add_plain] at hx108_0 | skip)
                            (first | simp only [add_plain] at hx115_0 | skip)
                            (first | simp only [add_plain] at hx116_0 | skip)
                            (first | simp only [add_plain] at hx117_0 | skip)
                            (first | simp only [add_plain] at hx119_0 | skip)
                            (first | simp only [add_plain] at hx120_0 | skip)
                            obtain ⟨hx47_0, hf47_0⟩ := Kd.R_celln 0 HO_0.out (x4_1 : Int) p47 q47
                            replace p47 := eq_true p47
                            replace q47 := eq_true q47
                            have HP49 := Kd.R_putg HO_0.out (x4_1 : Int) (rd x0_1 (ji4))
                            go_wp2_with (first | ((with_reducible refine gate_store (t := 27) (p := 59) rfl ?_); refine store_event (t := 27) (p := 59) (v := ?vo_w50) (w1 := (wr.setCell ⟨go47, (x4_1 : Int).toNat, none⟩ (.int .i64 (rd x0_1 (ji4))))) ?hg ?ho ?hn ?hr ?_; (case ho => rfl); (case hg => rfl); (case hn => rfl); (case hr => first | (go_simp; done) | (go_simp; rfl)); intro w50 hw; have hg : wr.grownBy w50 (some go47) := (by rw [hw]; exact HP49.2); have hp_ : Kd.R (Kd.int .i64) 27 w50 w0.heap.size (fun k_ => (P0_ k_ ∨ w.heap.size ≤ k_)) (.slice (some ⟨go47, 0, none⟩) x0_1.length co48) y121 := (by rw [hw, Ny121.out]; exact HP49.1); clear HP49; have n0_ := Aside0.mk (hp_); have n1_ := Aside0.mk ((by rw [hw]; exact below_set (HB.out) GB47.out : Below w0.heap.size w0 w50)); have n2_ := Aside0.mk (Kept.of_grown (S := (fun k_ => P0_ k_)) hg (by repeat (first | (with_reducible first | exact HK.out | apply Kept.alloc | apply Kept.drewN | apply Kept.drew) | exact HK.out)) (fun k_ e_ => (HO_0.out.1 k_ e_))); clear HO_0; clear HB; clear HK; have HO_0 := n0_; have HB := n1_; have HK := n2_; clear n0_ n1_ n2_; clear hg hw hp_))
                            go_roundg k1
                            case measure => have := HK1.out; omega
                            case rel => exact ⟨(y121), (ji44), (by first | rfl | (simp; done) | (simp only [← hji44] <;> (first | rfl | simp)) | (simp [*]; done)), H', ⟨by have := HK1.out; omega⟩, ⟨by (with_reducible repeat (first | apply Kd.R_alloc | apply Kd.R_drewN | apply Kd.R_drew)); exact HO_0.out⟩, ⟨by repeat (first | (with_reducible first | exact HK.out | apply Kept.alloc | apply Kept.drewN | apply Kept.drew) | exact HK.out)⟩, ⟨by repeat (first | (with_reducible first | exact HB.out | apply below_alloc | apply pw_below_drewN | apply below_drew1) | exact HB.out)⟩⟩
                          · rw [if_neg c46] at H
                            have c46b0 : ((rd x0_1 (ji44)) == (rd x0_1 (ji4))) = false := beq_eq_false_iff_ne.mpr c46
                            have c46b1 : ((rd x0_1 (ji44)) != (rd x0_1 (ji4))) = true := bne_iff_ne.mpr c46
                            have H' := Aside0.mk H
                            clear H
                            obtain ⟨Ao51, co51, eo51⟩ := Kd.R_slice HO_0.out
                            subst eo51
                            have p108 : 0 ≤ ((ji4) : Int) := of_decide_eq_true (by first | (with_reducible assumption) | assumption)
                            have q108 : (ji4) < (x0_1.length : Int) := of_decide_eq_true (by first | (with_reducible assumption) | assumption)
                            obtain ⟨ad108, e108, hx108_0⟩ := Kd.at_int (Kd.R_reads' HO_0.out).2.2 (ji4) p108 q108
                            cases e108
                            replace p108 := eq_true p108
                            replace q108 := eq_true q108
                            have p115 : 0 ≤ (x4_1 : Int) := of_decide_eq_true (by first | (with_reducible assumption) | assumption)
                            have q115 : x4_1 < (x0_1.length : Int) := of_decide_eq_true (by first | (with_reducible assumption) | assumption)
                            obtain ⟨ad115, e115, hx115_0⟩ := Kd.at_int (Kd.R_reads' HO_0.out).2.2 x4_1 p115 q115
                            obtain rfl : ad108 = ad115 := (by injection e115)
                            replace p115 := eq_true p115
                            replace q115 := eq_true q115
                            have p116 : 0 ≤ (x4_1 : Int) := of_decide_eq_true (by first | (with_reducible assumption) | assumption)
                            have q116 : x4_1 < (x0_1.length : Int) := of_decide_eq_true (by first | (with_reducible assumption) | assumption)
                            obtain ⟨ad116, e116, hx116_0⟩ := Kd.at_int (Kd.R_reads' HO_0.out).2.2 x4_1 p116 q116
                            obtain rfl : ad108 = ad116 := (by injection e116)
                            replace p116 := eq_true p116
                            replace q116 := eq_true q116
                            have p119 : 0 ≤ (x4_1 : Int) := of_decide_eq_true (by first | (with_reducible assumption) | assumption)
                            have q119 : x4_1 < (x0_1.length : Int) := of_decide_eq_true (by first | (with_reducible assumption) | assumption)
                            obtain ⟨ad119, e119, hx119_0⟩ := Kd.at_int (Kd.R_reads' HO_0.out).2.2 x4_1 p119 q119
                            obtain rfl : ad108 = ad119 := (by injection e119)
                            replace p119 := eq_true p119
                            replace q119 := eq_true q119
                            have p120 : 0 ≤ ((ji44) : Int) := of_decide_eq_true (by first | (with_reducible assumption) | assumption)
                            have q120 : (ji44) < (x0_1.length : Int) := of_decide_eq_true (by first | (with_reducible assumption) | assumption)
                            obtain ⟨ad120, e120, hx120_0⟩ := Kd.at_int (Kd.R_reads' HO_0.out).2.2 (ji44) p120 q120
                            obtain rfl : ad108 = ad120 := (by injection e120)
                            replace p120 := eq_true p120
                            replace q120 := eq_true q120
                            go_wp2
                            go_roundg k1
                            case measure => have := HK1.out; omega
                            case rel => exact ⟨(x0_1), (ji44), (by first | rfl | (simp; done) | (simp only [← hji44] <;> (first | rfl | simp)) | (simp [*]; done)), H', ⟨by have := HK1.out; omega⟩, ⟨by (with_reducible repeat (first | apply Kd.R_alloc | apply Kd.R_drewN | apply Kd.R_drew)); exact HO_0.out⟩, ⟨by repeat (first | (with_reducible first | exact HK.out | apply Kept.alloc | apply Kept.drewN | apply Kept.drew) | exact HK.out)⟩, ⟨by repeat (first | (with_reducible first | exact HB.out | apply below_alloc | apply pw_below_drewN | apply below_drew1) | exact HB.out)⟩⟩
                        · rw [if_neg c45] at H
                          exact absurd H (by simp)
                      · rw [if_neg c43] at H
                        have c43b0 : ((rd x0_1 x4_1) == 7) = false := beq_eq_false_iff_ne.mpr c43
                        have c43b1 : ((rd x0_1 x4_1) != 7) = true := bne_iff_ne.mpr c43
                        have H' := Aside0.mk H
                        clear H
                        obtain ⟨Ao52, co52, eo52⟩ := Kd.R_slice HO_0.out
                        subst eo52
                        have p108 : 0 ≤ ((ji4) : Int) := of_decide_eq_true (by first | (with_reducible assumption) | assumption)
                        have q108 : (ji4) < (x0_1.length : Int) := of_decide_eq_true (by first | (with_reducible assumption) | assumption)
                        obtain ⟨ad108, e108, hx108_0⟩ := Kd.at_int (Kd.R_reads' HO_0.out).2.2 (ji4) p108 q108
                        cases e108
                        replace p108 := eq_true p108
                        replace q108 := eq_true q108
                        have p115 : 0 ≤ (x4_1 : Int) := of_decide_eq_true (by first | (with_reducible assumption) | assumption)
                        have q115 : x4_1 < (x0_1.length : Int) := of_decide_eq_true (by first | (with_reducible assumption) | assumption)
                        obtain ⟨ad115, e115, hx115_0⟩ := Kd.at_int (Kd.R_reads' HO_0.out).2.2 x4_1 p115 q115
                        obtain rfl : ad108 = ad115 := (by injection e115)
                        replace p115 := eq_true p115
                        replace q115 := eq_true q115
                        have p116 : 0 ≤ (x4_1 : Int) := of_decide_eq_true (by first | (with_reducible assumption) | assumption)
                        have q116 : x4_1 < (x0_1.length : Int) := of_decide_eq_true (by first | (with_reducible assumption) | assumption)
                        obtain ⟨ad116, e116, hx116_0⟩ := Kd.at_int (Kd.R_reads' HO_0.out).2.2 x4_1 p116 q116
                        obtain rfl : ad108 = ad116 := (by injection e116)
                        replace p116 := eq_true p116
                        replace q116 := eq_true q116
                        have p119 : 0 ≤ (x4_1 : Int) := of_decide_eq_true (by first | (with_reducible assumption) | assumption)
                        have q119 : x4_1 < (x0_1.length : Int) := of_decide_eq_true (by first | (with_reducible assumption) | assumption)
                        obtain ⟨ad119, e119, hx119_0⟩ := Kd.at_int (Kd.R_reads' HO_0.out).2.2 x4_1 p119 q119
                        obtain rfl : ad108 = ad119 := (by injection e119)
                        replace p119 := eq_true p119
                        replace q119 := eq_true q119
                        go_wp2
                        go_roundg k1
                        case measure => have := HK1.out; omega
                        case rel => exact ⟨(x0_1), (wrap64 (x4_1 + 1)), (by first | rfl | (simp; done) | (simp [*]; done)), H', ⟨by have := HK1.out; omega⟩, ⟨by (with_reducible repeat (first | apply Kd.R_alloc | apply Kd.R_drewN | apply Kd.R_drew)); exact HO_0.out⟩, ⟨by repeat (first | (with_reducible first | exact HK.out | apply Kept.alloc | apply Kept.drewN | apply Kept.drew) | exact HK.out)⟩, ⟨by repeat (first | (with_reducible first | exact HB.out | apply below_alloc | apply pw_below_drewN | apply below_drew1) | exact HB.out)⟩⟩
                  · rw [if_neg c31] at H
                    exact absurd H (by simp)
                · rw [if_neg c30] at H
                  exact absurd H (by simp)
              · rw [if_neg c29] at H
                have c29b0 : ((rd x0_1 (ji4)) == 6) = false := beq_eq_false_iff_ne.mpr c29
                have c29b1 : ((rd x0_1 (ji4)) != 6) = true := bne_iff_ne.mpr c29
                by_cases c53 : 0 ≤ x4_1
                · rw [if_pos c53] at H
                  have c53b0 : decide (0 ≤ x4_1) = true := decide_eq_true c53
                  clear c53
                  by_cases c54 : x4_1 < (x0_1.length : Int)
                  · rw [if_pos c54] at H
                    have c54b0 : decide (x4_1 < (x0_1.length : Int)) = true := decide_eq_true c54
                    clear c54
                    by_cases c55 : (rd x0_1 x4_1) = 4
                    · rw [if_pos c55] at H
                      have c55b0 : ((rd x0_1 x4_1) == 4) = true := beq_iff_eq.mpr c55
                      have c55b1 : ((rd x0_1 x4_1) != 4) = false := bne_eq_false_iff_eq.mpr c55
                      clear c55
                      have H' := Aside0.mk H
                      clear H
                      obtain ⟨Ao56, co56, eo56⟩ := Kd.R_slice HO_0.out
                      subst eo56
                      have p108 : 0 ≤ ((ji4) : Int) := of_decide_eq_true (by first | (with_reducible assumption) | assumption)
                      have q108 : (ji4) < (x0_1.length : Int) := of_decide_eq_true (by first | (with_reducible assumption) | assumption)
                      obtain ⟨ad108, e108, hx108_0⟩ := Kd.at_int (Kd.R_reads' HO_0.out).2.2 (ji4) p108 q108
                      cases e108
                      replace p108 := eq_true p108
                      replace q108 := eq_true q108
                      have p122 : 0 ≤ (x4_1 : Int) := of_decide_eq_true (by first | (with_reducible assumption) | assumption)
                      have q122 : x4_1 < (x0_1.length : Int) := of_decide_eq_true (by first | (with_reducible assumption) | assumption)
                      obtain ⟨ad122, e122, hx122_0⟩ := Kd.at_int (Kd.R_reads' HO_0.out).2.2 x4_1 p122 q122
                      obtain rfl : ad108 = ad122 := (by injection e122)
                      replace p122 := eq_true p122
                      replace q122 := eq_true q122
                      go_wp2
                      go_roundg k1
                      case measure => have := HK1.out; omega
                      case rel => exact ⟨(x0_1), (wrap64 (x4_1 + 1)), (by first | rfl | (simp; done) | (simp [*]; done)), H', ⟨by have := HK1.out; omega⟩, ⟨by (with_reducible repeat (first | apply Kd.R_alloc | apply Kd.R_drewN | apply Kd.R_drew)); exact HO_0.out⟩, ⟨by repeat (first | (with_reducible first | exact HK.out | apply Kept.alloc | apply Kept.drewN | apply Kept.drew) | exact HK.out)⟩, ⟨by repeat (first | (with_reducible first | exact HB.out | apply below_alloc | apply pw_below_drewN | apply below_drew1) | exact HB.out)⟩⟩
                    · rw [if_neg c55] at H
                      have c55b0 : ((rd x0_1 x4_1) == 4) = false := beq_eq_false_iff_ne.mpr c55
                      have c55b1 : ((rd x0_1 x4_1) != 4) = true := bne_iff_ne.mpr c55
                      by_cases c57 : (rd x0_1 x4_1) = 7
                      · rw [if_pos c57] at H
                        have c57b0 : ((rd x0_1 x4_1) == 7) = true := beq_iff_eq.mpr c57
                        have c57b1 : ((rd x0_1 x4_1) != 7) = false := bne_eq_false_iff_eq.mpr c57
                        clear c57
                        have H' := Aside0.mk H
                        clear H
                        obtain ⟨Ao58, co58, eo58⟩ := Kd.R_slice HO_0.out
                        subst eo58
                        have p108 : 0 ≤ ((ji4) : Int) := of_decide_eq_true (by first | (with_reducible assumption) | assumption)
                        have q108 : (ji4) < (x0_1.length : Int) := of_decide_eq_true (by first | (with_reducible assumption) | assumption)
                        obtain ⟨ad108, e108, hx108_0⟩ := Kd.at_int (Kd.R_reads' HO_0.out).2.2 (ji4) p108 q108
                        cases e108
                        replace p108 := eq_true p108
                        replace q108 := eq_true q108
                        have p122 : 0 ≤ (x4_1 : Int) := of_decide_eq_true (by first | (with_reducible assumption) | assumption)
                        have q122 : x4_1 < (x0_1.length : Int) := of_decide_eq_true (by first | (with_reducible assumption) | assumption)
                        obtain ⟨ad122, e122, hx122_0⟩ := Kd.at_int (Kd.R_reads' HO_0.out).2.2 x4_1 p122 q122
                        obtain rfl : ad108 = ad122 := (by injection e122)
                        replace p122 := eq_true p122
                        replace q122 := eq_true q122
                        have p123 : 0 ≤ (x4_1 : Int) := of_decide_eq_true (by first | (with_reducible assumption) | assumption)
                        have q123 : x4_1 < (x0_1.length : Int) := of_decide_eq_true (by first | (with_reducible assumption) | assumption)
                        obtain ⟨ad123, e123, hx123_0⟩ := Kd.at_int (Kd.R_reads' HO_0.out).2.2 x4_1 p123 q123
                        obtain rfl : ad108 = ad123 := (by injection e123)
                        replace p123 := eq_true p123
                        replace q123 := eq_true q123
                        go_wp2
                        go_roundg k1
                        case measure => have := HK1.out; omega
                        case rel => exact ⟨(x0_1), (wrap64 (x4_1 + 1)), (by first | rfl | (simp; done) | (simp [*]; done)), H', ⟨by have := HK1.out; omega⟩, ⟨by (with_reducible repeat (first | apply Kd.R_alloc | apply Kd.R_drewN | apply Kd.R_drew)); exact HO_0.out⟩, ⟨by repeat (first | (with_reducible first | exact HK.out | apply Kept.alloc | apply Kept.drewN | apply Kept.drew) | exact HK.out)⟩, ⟨by repeat (first | (with_reducible first | exact HB.out | apply below_alloc | apply pw_below_drewN | apply below_drew1) | exact HB.out)⟩⟩
                      · rw [if_neg c57] at H
                        have c57b0 : ((rd x0_1 x4_1) == 7) = false := beq_eq_false_iff_ne.mpr c57
                        have c57b1 : ((rd x0_1 x4_1) != 7) = true := bne_iff_ne.mpr c57
                        have H' := Aside0.mk H
                        clear H
                        obtain ⟨Ao59, co59, eo59⟩ := Kd.R_slice HO_0.out
                        subst eo59
                        have p108 : 0 ≤ ((ji4) : Int) := of_decide_eq_true (by first | (with_reducible assumption) | assumption)
                        have q108 : (ji4) < (x0_1.length : Int) := of_decide_eq_true (by first | (with_reducible assumption) | assumption)
                        obtain ⟨ad108, e108, hx108_0⟩ := Kd.at_int (Kd.R_reads' HO_0.out).2.2 (ji4) p108 q108
                        cases e108
                        replace p108 := eq_true p108
                        replace q108 := eq_true q108
                        have p122 : 0 ≤ (x4_1 : Int) := of_decide_eq_true (by first | (with_reducible assumption) | assumption)
                        have q122 : x4_1 < (x0_1.length : Int) := of_decide_eq_true (by first | (with_reducible assumption) | assumption)
                        obtain ⟨ad122, e122, hx122_0⟩ := Kd.at_int (Kd.R_reads' HO_0.out).2.2 x4_1 p122 q122
                        obtain rfl : ad108 = ad122 := (by injection e122)
                        replace p122 := eq_true p122
                        replace q122 := eq_true q122
                        have p123 : 0 ≤ (x4_1 : Int) := of_decide_eq_true (by first | (with_reducible assumption) | assumption)
                        have q123 : x4_1 < (x0_1.length : Int) := of_decide_eq_true (by first | (with_reducible assumption) | assumption)
                        obtain ⟨ad123, e123, hx123_0⟩ := Kd.at_int (Kd.R_reads' HO_0.out).2.2 x4_1 p123 q123
                        obtain rfl : ad108 = ad123 := (by injection e123)
                        replace p123 := eq_true p123
                        replace q123 := eq_true q123
                        go_wp2
                        go_roundg k1
                        case measure => have := HK1.out; omega
                        case rel => exact ⟨(x0_1), (wrap64 (x4_1 + 1)), (by first | rfl | (simp; done) | (simp [*]; done)), H', ⟨by have := HK1.out; omega⟩, ⟨by (with_reducible repeat (first | apply Kd.R_alloc | apply Kd.R_drewN | apply Kd.R_drew)); exact HO_0.out⟩, ⟨by repeat (first | (with_reducible first | exact HK.out | apply Kept.alloc | apply Kept.drewN | apply Kept.drew) | exact HK.out)⟩, ⟨by repeat (first | (with_reducible first | exact HB.out | apply below_alloc | apply pw_below_drewN | apply below_drew1) | exact HB.out)⟩⟩
                  · rw [if_neg c54] at H
                    exact absurd H (by simp)
                · rw [if_neg c53] at H
                  exact absurd H (by simp)
          · rw [if_neg c6] at H
            exact absurd H (by simp)
        · rw [if_neg c5] at H
          exact absurd H (by simp)
      · rw [if_neg c3] at H
        have c3b0 : decide ((wrap64 (x4_1 + 1)) < (x0_1.length : Int)) = false := decide_eq_false c3
        clear c3
        obtain rfl := Option.some.inj H
        obtain ⟨Ao60, co60, eo60⟩ := Kd.R_slice HO_0.out
        subst eo60
        go_wp2
        first | go_end0 | ((try simp only [Exit.inBlock, Exit.then]); refine bodyPost_ret (results_none rfl _ _ _) rfl ?_)
        exact ⟨by first | rfl | (simp [errW_none, errW_some] <;> rfl) | (simp [*, errW_none, errW_some] <;> rfl), by (with_reducible repeat (first | apply Kd.R_alloc | apply Kd.R_drewN | apply Kd.R_drew)); exact HO_0.out, by repeat (first | (with_reducible first | exact HB.out | apply below_alloc | apply pw_below_drewN | apply below_drew1) | exact HB.out), by repeat (first | (with_reducible first | exact HK.out | apply Kept.alloc | apply Kept.drewN | apply Kept.drew) | exact HK.out)⟩

end Go.Proofs.Ytdhknnaholaohaa.P
