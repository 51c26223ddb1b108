/- The document's Take. The document's Take: a rect that lies there. -/
import Derived.Test.YtpljnkfbcgdafaaHRef
import Derived.Test.YtpljnkfbcgdafaaHTake2

namespace Go.Proofs.Ytpljnkfbcgdafaa.P
open Go.RowKit Go.Shelf Go.Proofs.YtpljnkfbcgdafaaW.PrintWords Go.Proofs.YtpljnkfbcgdafaaW.PrintLast Go.Proofs.YtpljnkfbcgdafaaW.PrintMore
set_option linter.unusedVariables false
set_option linter.unusedSimpArgs false

theorem rlies_q (a n s : Int) (hs : 0 ≤ s ∧ s ≤ 1000) (w : World) : Calls Try.prog 33 #[.int .i64 a, .int .i64 n, .int .i64 s] w fun e w' => e = .returned (.bool (liesB a n s)) ∧ ∃ q, w' = w.drewN q := by
  refine (frisketref20_lies.calls a n s (liesB a n s) w ?_).mono ?_
  · unfold frisketref20_lies.f liesB
    by_cases h1 : a ≥ 0
    · by_cases h2 : n ≥ 1
      · by_cases h3 : a < s
        · have : wrap64 (s - a) = s - a := by unfold wrap64; omega
          have h2' : 1 ≤ n := h2
          have h1' : 0 ≤ a := h1
          simp [h1', h2', h3, this]
        · simp [h3]
      · have : ¬ 1 ≤ n := h2
        simp [this]
    · have : ¬ 0 ≤ a := h1
      simp [this]
  · rintro e w' ⟨rfl, ⟨q, hq⟩⟩
    exact ⟨rfl, q, hq⟩
set_option maxHeartbeats 4000000 in
set_option maxRecDepth 100000 in
theorem RTake_no1t (g : Nat) (W H : Int) (l : List S59) (X Y Rw Rh ow : Int) (w : World) (h : RSh w g W H l) (hW : 0 ≤ W ∧ W ≤ 1000) (hH : 0 ≤ H ∧ H ≤ 1000) (l1 : liesB X Rw W = false) (l2 : liesB Y Rh H = true) :
    Calls Try.prog 24 #[.pointer (some ⟨g, 0, none⟩), .agg #[.int .i64 X, .int .i64 Y, .int .i64 Rw, .int .i64 Rh], .int .i64 ow] w fun e w' => e = .returned (.int .i64 201) ∧ Below w.heap.size w w' := by
  have hu32 := Try.underlying32
  have hu55 := Try.underlying55
  have L1 := Aside0.mk (rlies_q X Rw W hW)
  have L2 := Aside0.mk (rlies_q Y Rh H hH)
  rw [l1] at L1
  rw [l2] at L2
  clear l1 l2
  have hw1 : Below w.heap.size w (w.alloc (.cells #[.int .i64 X, .int .i64 Y, .int .i64 Rw, .int .i64 Rh] 32)) := below_alloc (Below.refl _ _) _
  have hb1 := blk_new w (.cells #[.int .i64 X, .int .i64 Y, .int .i64 Rw, .int .i64 Rh] 32)
  have hs1 := h.below hw1
  obtain ⟨V, hV⟩ : ∃ V, w.alloc (.cells #[.int .i64 X, .int .i64 Y, .int .i64 Rw, .int .i64 Rh] 32) = V := ⟨_, rfl⟩
  rw [hV] at hw1 hb1 hs1
  obtain ⟨A, c, hg, hC, hc⟩ := hs1
  have HV := Aside0.mk hV
  have HW1 := Aside0.mk hw1
  have HG := Aside0.mk hg
  have HC := Aside0.mk hC
  have HCC := Aside0.mk hc
  have HB1 := Aside0.mk hb1
  have q0 := cI hb1 0 (v := .int .i64 X) rfl
  have q1 := cI hb1 1 (v := .int .i64 Y) rfl
  have q2 := cI hb1 2 (v := .int .i64 Rw) rfl
  have q3 := cI hb1 3 (v := .int .i64 Rh) rfl
  have g0 := cI hg 0 (v := .int .i64 W) rfl
  have g1 := cI hg 1 (v := .int .i64 H) rfl
  clear hV hw1 hg hC hc hb1 h hW hH
  go_enter Try.func24, Try.ntmps24
  go_upto_region 1 with (fail)
  rw [HV.out]
  go_wp2
  go_quiet (first | (go_at_call 33; with_reducible exact Calls.quiet_of (L1.out _)) | (go_at_call 33; with_reducible exact Calls.quiet_of (L2.out _)))
  go_upto_region 2 with (fail)
  obtain ⟨V2, hV2⟩ : ∃ V2, V.drewN nq = V2 := ⟨_, rfl⟩
  have HV2 := Aside0.mk hV2
  rw [hV2]
  have e0 : ∀ a, V2.cell? a = V.cell? a := by intro a; rw [← hV2]; rfl
  have q0' := (e0 _).trans q0
  have q1' := (e0 _).trans q1
  have q2' := (e0 _).trans q2
  have q3' := (e0 _).trans q3
  have g0' := (e0 _).trans g0
  have g1' := (e0 _).trans g1
  clear q0 q1 q2 q3 g0 g1 e0 hV2
  go_wp2
  go_quiet (first | (go_at_call 33; with_reducible exact Calls.quiet_of (L1.out _)) | (go_at_call 33; with_reducible exact Calls.quiet_of (L2.out _)))
  go_wp2
  go_ret
  exact ⟨rfl, pw_below_drewN (by rw [← HV2.out]; exact pw_below_drewN HW1.out _) _⟩
set_option maxHeartbeats 4000000 in
set_option maxRecDepth 100000 in
theorem RTake_no1f (g : Nat) (W H : Int) (l : List S59) (X Y Rw Rh ow : Int) (w : World) (h : RSh w g W H l) (hW : 0 ≤ W ∧ W ≤ 1000) (hH : 0 ≤ H ∧ H ≤ 1000) (l1 : liesB X Rw W = false) (l2 : liesB Y Rh H = false) :
    Calls Try.prog 24 #[.pointer (some ⟨g, 0, none⟩), .agg #[.int .i64 X, .int .i64 Y, .int .i64 Rw, .int .i64 Rh], .int .i64 ow] w fun e w' => e = .returned (.int .i64 201) ∧ Below w.heap.size w w' := by
  have hu32 := Try.underlying32
  have hu55 := Try.underlying55
  have L1 := Aside0.mk (rlies_q X Rw W hW)
  have L2 := Aside0.mk (rlies_q Y Rh H hH)
  rw [l1] at L1
  rw [l2] at L2
  clear l1 l2
  have hw1 : Below w.heap.size w (w.alloc (.cells #[.int .i64 X, .int .i64 Y, .int .i64 Rw, .int .i64 Rh] 32)) := below_alloc (Below.refl _ _) _
  have hb1 := blk_new w (.cells #[.int .i64 X, .int .i64 Y, .int .i64 Rw, .int .i64 Rh] 32)
  have hs1 := h.below hw1
  obtain ⟨V, hV⟩ : ∃ V, w.alloc (.cells #[.int .i64 X, .int .i64 Y, .int .i64 Rw, .int .i64 Rh] 32) = V := ⟨_, rfl⟩
  rw [hV] at hw1 hb1 hs1
  obtain ⟨A, c, hg, hC, hc⟩ := hs1
  have HV := Aside0.mk hV
  have HW1 := Aside0.mk hw1
  have HG := Aside0.mk hg
  have HC := Aside0.mk hC
  have HCC := Aside0.mk hc
  have HB1 := Aside0.mk hb1
  have q0 := cI hb1 0 (v := .int .i64 X) rfl
  have q1 := cI hb1 1 (v := .int .i64 Y) rfl
  have q2 := cI hb1 2 (v := .int .i64 Rw) rfl
  have q3 := cI hb1 3 (v := .int .i64 Rh) rfl
  have g0 := cI hg 0 (v := .int .i64 W) rfl
  have g1 := cI hg 1 (v := .int .i64 H) rfl
  clear hV hw1 hg hC hc hb1 h hW hH
  go_enter Try.func24, Try.ntmps24
  go_upto_region 1 with (fail)
  rw [HV.out]
  go_wp2
  go_quiet (first | (go_at_call 33; with_reducible exact Calls.quiet_of (L1.out _)) | (go_at_call 33; with_reducible exact Calls.quiet_of (L2.out _)))
  go_upto_region 2 with (fail)
  obtain ⟨V2, hV2⟩ : ∃ V2, V.drewN nq = V2 := ⟨_, rfl⟩
  have HV2 := Aside0.mk hV2
  rw [hV2]
  have e0 : ∀ a, V2.cell? a = V.cell? a := by intro a; rw [← hV2]; rfl
  have q0' := (e0 _).trans q0
  have q1' := (e0 _).trans q1
  have q2' := (e0 _).trans q2
  have q3' := (e0 _).trans q3
  have g0' := (e0 _).trans g0
  have g1' := (e0 _).trans g1
  clear q0 q1 q2 q3 g0 g1 e0 hV2
  go_wp2
  go_quiet (first | (go_at_call 33; with_reducible exact Calls.quiet_of (L1.out _)) | (go_at_call 33; with_reducible exact Calls.quiet_of (L2.out _)))
  go_wp2
  go_ret
  exact ⟨rfl, pw_below_drewN (by rw [← HV2.out]; exact pw_below_drewN HW1.out _) _⟩
set_option maxHeartbeats 4000000 in
set_option maxRecDepth 100000 in
theorem RTake_no2 (g : Nat) (W H : Int) (l : List S59) (X Y Rw Rh ow : Int) (w : World) (h : RSh w g W H l) (hW : 0 ≤ W ∧ W ≤ 1000) (hH : 0 ≤ H ∧ H ≤ 1000) (l1 : liesB X Rw W = true) (l2 : liesB Y Rh H = false) :
    Calls Try.prog 24 #[.pointer (some ⟨g, 0, none⟩), .agg #[.int .i64 X, .int .i64 Y, .int .i64 Rw, .int .i64 Rh], .int .i64 ow] w fun e w' => e = .returned (.int .i64 201) ∧ Below w.heap.size w w' := by
  have hu32 := Try.underlying32
  have hu55 := Try.underlying55
  have L1 := Aside0.mk (rlies_q X Rw W hW)
  have L2 := Aside0.mk (rlies_q Y Rh H hH)
  rw [l1] at L1
  rw [l2] at L2
  clear l1 l2
  have hw1 : Below w.heap.size w (w.alloc (.cells #[.int .i64 X, .int .i64 Y, .int .i64 Rw, .int .i64 Rh] 32)) := below_alloc (Below.refl _ _) _
  have hb1 := blk_new w (.cells #[.int .i64 X, .int .i64 Y, .int .i64 Rw, .int .i64 Rh] 32)
  have hs1 := h.below hw1
  obtain ⟨V, hV⟩ : ∃ V, w.alloc (.cells #[.int .i64 X, .int .i64 Y, .int .i64 Rw, .int .i64 Rh] 32) = V := ⟨_, rfl⟩
  rw [hV] at hw1 hb1 hs1
  obtain ⟨A, c, hg, hC, hc⟩ := hs1
  have HV := Aside0.mk hV
  have HW1 := Aside0.mk hw1
  have HG := Aside0.mk hg
  have HC := Aside0.mk hC
  have HCC := Aside0.mk hc
  have HB1 := Aside0.mk hb1
  have q0 := cI hb1 0 (v := .int .i64 X) rfl
  have q1 := cI hb1 1 (v := .int .i64 Y) rfl
  have q2 := cI hb1 2 (v := .int .i64 Rw) rfl
  have q3 := cI hb1 3 (v := .int .i64 Rh) rfl
  have g0 := cI hg 0 (v := .int .i64 W) rfl
  have g1 := cI hg 1 (v := .int .i64 H) rfl
  clear hV hw1 hg hC hc hb1 h hW hH
  go_enter Try.func24, Try.ntmps24
  go_upto_region 1 with (fail)
  rw [HV.out]
  go_wp2
  go_quiet (first | (go_at_call 33; with_reducible exact Calls.quiet_of (L1.out _)) | (go_at_call 33; with_reducible exact Calls.quiet_of (L2.out _)))
  go_upto_region 2 with (fail)
  obtain ⟨V2, hV2⟩ : ∃ V2, V.drewN nq = V2 := ⟨_, rfl⟩
  have HV2 := Aside0.mk hV2
  rw [hV2]
  have e0 : ∀ a, V2.cell? a = V.cell? a := by intro a; rw [← hV2]; rfl
  have q0' := (e0 _).trans q0
  have q1' := (e0 _).trans q1
  have q2' := (e0 _).trans q2
  have q3' := (e0 _).trans q3
  have g0' := (e0 _).trans g0
  have g1' := (e0 _).trans g1
  clear q0 q1 q2 q3 g0 g1 e0 hV2
  go_wp2
  go_quiet (first | (go_at_call 33; with_reducible exact Calls.quiet_of (L1.out _)) | (go_at_call 33; with_reducible exact Calls.quiet_of (L2.out _)))
  go_wp2
  go_ret
  exact ⟨rfl, pw_below_drewN (by rw [← HV2.out]; exact pw_below_drewN HW1.out _) _⟩
set_option maxHeartbeats 4000000 in
set_option maxRecDepth 100000 in
theorem RTake_no3 (g : Nat) (W H : Int) (l : List S59) (X Y Rw Rh ow : Int) (w : World) (h : RSh w g W H l) (hW : 0 ≤ W ∧ W ≤ 1000) (hH : 0 ≤ H ∧ H ≤ 1000) (l1 : liesB X Rw W = true) (l2 : liesB Y Rh H = true) (ho : ow < 1) :
    Calls Try.prog 24 #[.pointer (some ⟨g, 0, none⟩), .agg #[.int .i64 X, .int .i64 Y, .int .i64 Rw, .int .i64 Rh], .int .i64 ow] w fun e w' => e = .returned (.int .i64 201) ∧ Below w.heap.size w w' := by
  have hu32 := Try.underlying32
  have hu55 := Try.underlying55
  have L1 := Aside0.mk (rlies_q X Rw W hW)
  have L2 := Aside0.mk (rlies_q Y Rh H hH)
  rw [l1] at L1
  rw [l2] at L2
  have ho1 : decide (ow < 1) = true := decide_eq_true ho
  clear l1 l2 ho
  have hw1 : Below w.heap.size w (w.alloc (.cells #[.int .i64 X, .int .i64 Y, .int .i64 Rw, .int .i64 Rh] 32)) := below_alloc (Below.refl _ _) _
  have hb1 := blk_new w (.cells #[.int .i64 X, .int .i64 Y, .int .i64 Rw, .int .i64 Rh] 32)
  have hs1 := h.below hw1
  obtain ⟨V, hV⟩ : ∃ V, w.alloc (.cells #[.int .i64 X, .int .i64 Y, .int .i64 Rw, .int .i64 Rh] 32) = V := ⟨_, rfl⟩
  rw [hV] at hw1 hb1 hs1
  obtain ⟨A, c, hg, hC, hc⟩ := hs1
  have HV := Aside0.mk hV
  have HW1 := Aside0.mk hw1
  have HG := Aside0.mk hg
  have HC := Aside0.mk hC
  have HCC := Aside0.mk hc
  have HB1 := Aside0.mk hb1
  have q0 := cI hb1 0 (v := .int .i64 X) rfl
  have q1 := cI hb1 1 (v := .int .i64 Y) rfl
  have q2 := cI hb1 2 (v := .int .i64 Rw) rfl
  have q3 := cI hb1 3 (v := .int .i64 Rh) rfl
  have g0 := cI hg 0 (v := .int .i64 W) rfl
  have g1 := cI hg 1 (v := .int .i64 H) rfl
  clear hV hw1 hg hC hc hb1 h hW hH
  go_enter Try.func24, Try.ntmps24
  go_upto_region 1 with (fail)
  rw [HV.out]
  go_wp2
  go_quiet (first | (go_at_call 33; with_reducible exact Calls.quiet_of (L1.out _)) | (go_at_call 33; with_reducible exact Calls.quiet_of (L2.out _)))
  go_upto_region 2 with (fail)
  obtain ⟨V2, hV2⟩ : ∃ V2, V.drewN nq = V2 := ⟨_, rfl⟩
  have HV2 := Aside0.mk hV2
  rw [hV2]
  have e0 : ∀ a, V2.cell? a = V.cell? a := by intro a; rw [← hV2]; rfl
  have q0' := (e0 _).trans q0
  have q1' := (e0 _).trans q1
  have q2' := (e0 _).trans q2
  have q3' := (e0 _).trans q3
  have g0' := (e0 _).trans g0
  have g1' := (e0 _).trans g1
  clear q0 q1 q2 q3 g0 g1 e0 hV2
  go_wp2
  go_quiet (first | (go_at_call 33; with_reducible exact Calls.quiet_of (L1.out _)) | (go_at_call 33; with_reducible exact Calls.quiet_of (L2.out _)))
  go_wp2
  go_ret
  exact ⟨rfl, pw_below_drewN (by rw [← HV2.out]; exact pw_below_drewN HW1.out _) _⟩
set_option maxHeartbeats 4000000 in
set_option maxRecDepth 100000 in
theorem RTake_no4 (g : Nat) (W H : Int) (l : List S59) (X Y Rw Rh ow : Int) (w : World) (h : RSh w g W H l) (hW : 0 ≤ W ∧ W ≤ 1000) (hH : 0 ≤ H ∧ H ≤ 1000) (l1 : liesB X Rw W = true) (l2 : liesB Y Rh H = true) (ho : 1 ≤ ow) (ho2 : 1048576 < ow) :
    Calls Try.prog 24 #[.pointer (some ⟨g, 0, none⟩), .agg #[.int .i64 X, .int .i64 Y, .int .i64 Rw, .int .i64 Rh], .int .i64 ow] w fun e w' => e = .returned (.int .i64 201) ∧ Below w.heap.size w w' := by
  have hu32 := Try.underlying32
  have hu55 := Try.underlying55
  have L1 := Aside0.mk (rlies_q X Rw W hW)
  have L2 := Aside0.mk (rlies_q Y Rh H hH)
  rw [l1] at L1
  rw [l2] at L2
  have ho1 : decide (ow < 1) = false := decide_eq_false (by omega)
  have ho3 : decide (1048576 < ow) = true := decide_eq_true ho2
  clear l1 l2 ho ho2
  have hw1 : Below w.heap.size w (w.alloc (.cells #[.int .i64 X, .int .i64 Y, .int .i64 Rw, .int .i64 Rh] 32)) := below_alloc (Below.refl _ _) _
  have hb1 := blk_new w (.cells #[.int .i64 X, .int .i64 Y, .int .i64 Rw, .int .i64 Rh] 32)
  have hs1 := h.below hw1
  obtain ⟨V, hV⟩ : ∃ V, w.alloc (.cells #[.int .i64 X, .int .i64 Y, .int .i64 Rw, .int .i64 Rh] 32) = V := ⟨_, rfl⟩
  rw [hV] at hw1 hb1 hs1
  obtain ⟨A, c, hg, hC, hc⟩ := hs1
  have HV := Aside0.mk hV
  have HW1 := Aside0.mk hw1
  have HG := Aside0.mk hg
  have HC := Aside0.mk hC
  have HCC := Aside0.mk hc
  have HB1 := Aside0.mk hb1
  have q0 := cI hb1 0 (v := .int .i64 X) rfl
  have q1 := cI hb1 1 (v := .int .i64 Y) rfl
  have q2 := cI hb1 2 (v := .int .i64 Rw) rfl
  have q3 := cI hb1 3 (v := .int .i64 Rh) rfl
  have g0 := cI hg 0 (v := .int .i64 W) rfl
  have g1 := cI hg 1 (v := .int .i64 H) rfl
  clear hV hw1 hg hC hc hb1 h hW hH
  go_enter Try.func24, Try.ntmps24
  go_upto_region 1 with (fail)
  rw [HV.out]
  go_wp2
  go_quiet (first | (go_at_call 33; with_reducible exact Calls.quiet_of (L1.out _)) | (go_at_call 33; with_reducible exact Calls.quiet_of (L2.out _)))
  go_upto_region 2 with (fail)
  obtain ⟨V2, hV2⟩ : ∃ V2, V.drewN nq = V2 := ⟨_, rfl⟩
  have HV2 := Aside0.mk hV2
  rw [hV2]
  have e0 : ∀ a, V2.cell? a = V.cell? a := by intro a; rw [← hV2]; rfl
  have q0' := (e0 _).trans q0
  have q1' := (e0 _).trans q1
  have q2' := (e0 _).trans q2
  have q3' := (e0 _).trans q3
  have g0' := (e0 _).trans g0
  have g1' := (e0 _).trans g1
  clear q0 q1 q2 q3 g0 g1 e0 hV2
  go_wp2
  go_quiet (first | (go_at_call 33; with_reducible exact Calls.quiet_of (L1.out _)) | (go_at_call 33; with_reducible exact Calls.quiet_of (L2.out _)))
  go_wp2
  go_ret
  exact ⟨rfl, pw_below_drewN (by rw [← HV2.out]; exact pw_below_drewN HW1.out _) _⟩
theorem RTake_no.calls (g : Nat) (W H : Int) (l : List S59) (X Y Rw Rh ow : Int) (w : World) (h : RSh w g W H l) (hW : 0 ≤ W ∧ W ≤ 1000) (hH : 0 ≤ H ∧ H ≤ 1000)
    (hno : ¬ (liesB X Rw W = true ∧ liesB Y Rh H = true ∧ 1 ≤ ow ∧ ow ≤ 1048576)) :
    Calls Try.prog 24 #[.pointer (some ⟨g, 0, none⟩), .agg #[.int .i64 X, .int .i64 Y, .int .i64 Rw, .int .i64 Rh], .int .i64 ow] w fun e w' => e = .returned (.int .i64 201) ∧ Below w.heap.size w w' := by
  cases l1 : liesB X Rw W with
  | false =>
    cases l2 : liesB Y Rh H with
    | false => exact RTake_no1f g W H l X Y Rw Rh ow w h hW hH l1 l2
    | true => exact RTake_no1t g W H l X Y Rw Rh ow w h hW hH l1 l2
  | true =>
    cases l2 : liesB Y Rh H with
    | false => exact RTake_no2 g W H l X Y Rw Rh ow w h hW hH l1 l2
    | true =>
      by_cases ho : 1 ≤ ow
      · by_cases ho2 : ow ≤ 1048576
        · exact absurd ⟨l1, l2, ho, ho2⟩ hno
        · exact RTake_no4 g W H l X Y Rw Rh ow w h hW hH l1 l2 ho (by omega)
      · exact RTake_no3 g W H l X Y Rw Rh ow w h hW hH l1 l2 (by omega)
end Go.Proofs.Ytpljnkfbcgdafaa.P

namespace Go.Proofs.Ytpljnkfbcgdafaa.P
open Go.RowKit Go.Shelf Go.Proofs.YtpljnkfbcgdafaaW.PrintWords Go.Proofs.YtpljnkfbcgdafaaW.PrintLast Go.Proofs.YtpljnkfbcgdafaaW.PrintMore
set_option linter.unusedVariables false
set_option linter.unusedSimpArgs false

theorem info59 : (Try.prog.info? 59).map (fun i => (i.zero, i.size, i.bytes)) = some (some (.agg #[.int .i64 0, .int .i64 0, .int .i64 0, .int .i64 0, .int .i64 0]), 5, 40) := by kernel_rfl
theorem R_new0 {α : Type} (d : Kd α) (e : Nat) (W : World) (base : Nat) (hb : base ≤ W.heap.size) : Kd.R d e (W.alloc (.cells #[] e)) base (fun _ => True) (.slice (some ⟨W.heap.size, 0, none⟩) 0 0) [] :=
  ⟨fun _ _ => trivial, [], ⟨by simp, .inr ⟨W.heap.size, 0, #[], rfl, hb, blk_new _ _, Nat.le_refl _, Nat.zero_le _, by simp, by simp⟩⟩, Reps.none _ _⟩
theorem K59_M {w : World} {base : Nat} {ok : Nat → Prop} (x : S59) (cs : List Value) (h : k59.K w x cs) : k59.M w base ok x cs := by
  obtain rfl := k59_open h
  exact k59_mkM _ _ _ x
def held (X Y Rw Rh ow : Int) : S59 := ⟨⟨X, Y, Rw, Rh⟩, ow⟩
theorem grC2 (w : World) (b i : Nat) (v : Value) : w.grownBy (w.setCell ⟨b, i, none⟩ v) (some b) :=
  ⟨rfl, rfl, rfl, by simp, fun k _ hk => Below.heap_setCell w ⟨b, i, none⟩ v k (fun e => hk (by rw [e]))⟩
theorem gB {w w' : World} (h : Below w.heap.size w w') (row : Option Nat) : w.grownBy w' row := ⟨h.os, h.tape, h.output, h.size, fun i hi _ => h.block i hi⟩
set_option maxHeartbeats 8000000 in
set_option maxRecDepth 100000 in
theorem RTake_ok.calls (g : Nat) (W H : Int) (l : List S59) (X Y : Int) (rw rh : Nat) (ow : Int) (w : World) (h : RSh w g W H l) (hW : 0 ≤ W ∧ W ≤ 100) (hH : 0 ≤ H ∧ H ≤ 100)
    (l1 : liesB X rw W = true) (l2 : liesB Y rh H = true) (ho : 1 ≤ ow ∧ ow ≤ 1048576) (hl : l.length ≤ 1000000) :
    Calls Try.prog 24 #[.pointer (some ⟨g, 0, none⟩), .agg #[.int .i64 X, .int .i64 Y, .int .i64 (rw : Int), .int .i64 (rh : Int)], .int .i64 ow] w fun e w' =>
      ((∀ k : Nat, k < rw * rh → rAt W H l (cellAt X Y rh k).1.1 (cellAt X Y rh k).1.2 = 0) ∧ e = .returned (.int .i64 0) ∧ RSh w' g W H (l ++ [held X Y rw rh ow]) ∧ w.grownBy w' (some g)) ∨
      ((∃ k : Nat, k < rw * rh ∧ rAt W H l (cellAt X Y rh k).1.1 (cellAt X Y rh k).1.2 ≠ 0) ∧ e = .returned (.int .i64 201) ∧ RSh w' g W H l ∧ w.grownBy w' (some g)) := by
  have hu32 := Try.underlying32
  have hu55 := Try.underlying55
  have hu59 := Try.underlying59
  have L1 := Aside0.mk (rlies_q X rw W (by omega))
  have L2 := Aside0.mk (rlies_q Y rh H (by omega))
  have hxy : 0 ≤ X ∧ X ≤ 100 ∧ 0 ≤ Y ∧ Y ≤ 100 ∧ rw ≤ 100 ∧ rh ≤ 100 := by
    simp only [liesB, Bool.and_eq_true, decide_eq_true_eq] at l1 l2
    omega
  rw [l1] at L1
  rw [l2] at L2
  have HXY := Aside0.mk hxy
  have HL := Aside0.mk hl
  have HO := Aside0.mk ho
  have ho1 : decide (ow < 1) = false := decide_eq_false (by omega)
  have ho3 : decide (1048576 < ow) = false := decide_eq_false (by omega)
  have hgl := h.lt
  have HGL := Aside0.mk hgl
  have hw1 : Below w.heap.size w (w.alloc (.cells #[.int .i64 X, .int .i64 Y, .int .i64 (rw : Int), .int .i64 (rh : Int)] 32)) := below_alloc (Below.refl _ _) _
  have hb1 := blk_new w (.cells #[.int .i64 X, .int .i64 Y, .int .i64 (rw : Int), .int .i64 (rh : Int)] 32)
  have hs1 := h.below hw1
  obtain ⟨V, hV⟩ : ∃ V, w.alloc (.cells #[.int .i64 X, .int .i64 Y, .int .i64 (rw : Int), .int .i64 (rh : Int)] 32) = V := ⟨_, rfl⟩
  rw [hV] at hw1 hb1 hs1
  obtain ⟨A, c, hg, hC, hc⟩ := hs1
  have HV := Aside0.mk hV
  have HW1 := Aside0.mk hw1
  have HG := Aside0.mk hg
  have HC := Aside0.mk hC
  have HCC := Aside0.mk hc
  have HB1 := Aside0.mk hb1
  have q0 := cI hb1 0 (v := .int .i64 X) rfl
  have q1 := cI hb1 1 (v := .int .i64 Y) rfl
  have q2 := cI hb1 2 (v := .int .i64 rw) rfl
  have q3 := cI hb1 3 (v := .int .i64 rh) rfl
  have g0 := cI hg 0 (v := .int .i64 W) rfl
  have g1 := cI hg 1 (v := .int .i64 H) rfl
  clear hV hw1 hg hC hc hb1 h hW hH l1 l2 ho hl hxy hgl
  go_enter Try.func24, Try.ntmps24
  go_upto_region 1 with (fail)
  rw [HV.out]
  go_wp2
  go_quiet (first | (go_at_call 33; with_reducible exact Calls.quiet_of (L1.out _)) | (go_at_call 33; with_reducible exact Calls.quiet_of (L2.out _)))
  go_upto_region 2 with (fail)
  obtain ⟨V2, hV2⟩ : ∃ V2, V.drewN nq = V2 := ⟨_, rfl⟩
  have HV2 := Aside0.mk hV2
  rw [hV2]
  have e0 : ∀ a, V2.cell? a = V.cell? a := by intro a; rw [← hV2]; rfl
  have q0' := (e0 _).trans q0
  have q1' := (e0 _).trans q1
  have q2' := (e0 _).trans q2
  have q3' := (e0 _).trans q3
  have g0' := (e0 _).trans g0
  have g1' := (e0 _).trans g1
  clear q0 q1 q2 q3 g0 g1 e0 hV2
  go_wp2
  go_quiet (first | (go_at_call 33; with_reducible exact Calls.quiet_of (L1.out _)) | (go_at_call 33; with_reducible exact Calls.quiet_of (L2.out _)))
  go_upto_region 5 with (fail)
  obtain ⟨V3, hV3⟩ : ∃ V3, V2.drewN nq = V3 := ⟨_, rfl⟩
  have hB3 : Below w.heap.size w V3 := by rw [← hV3, ← HV2.out]; exact pw_below_drewN (pw_below_drewN HW1.out _) _
  have hh3 : ∀ k : Nat, V3.heap[k]? = V.heap[k]? := by intro k; rw [← hV3, ← HV2.out]; rfl
  have hz3 : V3.heap.size = w.heap.size + 1 := by rw [← hV3, ← HV2.out]; show V.heap.size = _; rw [← HV.out, World.size_alloc]
  have HBX := Aside0.mk ((hh3 _).trans HB1.out)
  have HG3 := Aside0.mk (show RSh V3 g W H l from by rw [← hV3, ← HV2.out]; exact ⟨A, c, HG.out, Kd.C_drewN (Kd.C_drewN HC.out _) _, HCC.out⟩)
  have HB3 := Aside0.mk hB3
  have HZ3 := Aside0.mk hz3
  rw [hV3]
  have q0 := cI HBX.out 0 (v := .int .i64 X) rfl
  clear hV3 hB3 hh3 hz3 q0' q1' q2' q3' g0' g1'
  go_wp2
  go_loopg [9] rw (fun kq v9 wr => ∃ (i : Nat), v9 = .int .i64 (X + (i : Int)) ∧ Aside0 (i + kq = rw) ∧ Aside0 (∀ k : Nat, k < i * rh → rAt W H l (cellAt X Y rh k).1.1 (cellAt X Y rh k).1.2 = 0) ∧ Aside0 (Below V3.heap.size V3 wr))
  case atStart => exact ⟨0, by simp, ⟨by omega⟩, ⟨by omega⟩, ⟨Below.refl _ _⟩⟩
  case round =>
    obtain ⟨i, rfl, HI, HF, HB⟩ := hrel
    clear q0
    have hbx := blk_below HBX.out HB.out
    have p0 := cI hbx 0 (v := .int .i64 X) rfl
    have p1 := cI hbx 1 (v := .int .i64 Y) rfl
    have p2 := cI hbx 2 (v := .int .i64 rw) rfl
    have p3 := cI hbx 3 (v := .int .i64 rh) rfl
    have wX : wrap64 (X + (rw : Int)) = X + (rw : Int) := by have := HXY.out; unfold wrap64; omega
    by_cases ci : i < rw
    · have cb : decide (X + (i : Int) < X + (rw : Int)) = true := decide_eq_true (by omega)
      obtain ⟨d, rfl⟩ : ∃ d, gk = d + 1 := ⟨gk - 1, by have := HI.out; omega⟩
      have HCI := Aside0.mk ci
      have ci' : (i < rw) = True := eq_true ci
      have ci2 : decide (i < rw) = true := decide_eq_true ci
      have ci3 : decide ((i : Int) < (rw : Int)) = true := decide_eq_true (by omega)
      clear ci hbx
      go_wp2
      go_loopg [10] rh (fun kq v10 wr => ∃ (j : Nat), v10 = .int .i64 (Y + (j : Int)) ∧ Aside0 (j + kq = rh) ∧ Aside0 (∀ k : Nat, k < i * rh + j → rAt W H l (cellAt X Y rh k).1.1 (cellAt X Y rh k).1.2 = 0) ∧ Aside0 (Below V3.heap.size V3 wr))
      case atStart => exact ⟨0, by simp, ⟨by omega⟩, HF, HB⟩
      case round =>
        obtain ⟨j, rfl, HJ, HF2, HB2⟩ := hrel
        clear p0 p1 p2 p3 wX
        have hbx := blk_below HBX.out HB2.out
        have p1 := cI hbx 1 (v := .int .i64 Y) rfl
        have p3 := cI hbx 3 (v := .int .i64 rh) rfl
        have wY : wrap64 (Y + (rh : Int)) = Y + (rh : Int) := by have := HXY.out; unfold wrap64; omega
        have hrs := HG3.out.below HB2.out
        have HRS := Aside0.mk hrs
        clear hbx hrs
        by_cases cj : j < rh
        · have cbj : decide (Y + (j : Int) < Y + (rh : Int)) = true := decide_eq_true (by omega)
          obtain ⟨d2, rfl⟩ : ∃ d2, gk = d2 + 1 := ⟨gk - 1, by have := HJ.out; omega⟩
          have hce := cellAt_ij X Y rh i j cj (by have := HXY.out; have := HCI.out; omega)
          have hk : i * rh + j < rw * rh := by
            have h1 : (i + 1) * rh ≤ rw * rh := Nat.mul_le_mul_right _ HCI.out
            rw [Nat.succ_mul] at h1
            omega
          have HK := Aside0.mk hk
          have HCE := Aside0.mk hce
          have HWJ := Aside0.mk (show wrap64 (Y + (j : Int) + 1) = Y + ((j + 1 : Nat) : Int) by have := HXY.out; unfold wrap64; omega)
          have cj' : (j < rh) = True := eq_true cj
          have cj2 : decide (j < rh) = true := decide_eq_true cj
          have cj3 : decide ((j : Int) < (rh : Int)) = true := decide_eq_true (by omega)
          clear cj hk hce
          by_cases hv : rAt W H l (X + i) (Y + j) = 0
          · have hvb : (rAt W H l (X + i) (Y + j) != 0) = false := by rw [hv]; rfl
            have HVZ := Aside0.mk hv
            clear hv
            go_wp2_with (go_at_call 19; refine (RAt.calls g W H l (X + i) (Y + j) _ HRS.out HL.out).mono ?_; rintro e w2 ⟨rfl, hb⟩; have HB4 := Aside0.mk (below_step HB2.out hb); clear hb)
            go_roundg d2
            case measure => have := HJ.out; omega
            case rel => exact ⟨j + 1, by rw [HWJ.out], ⟨by have := HJ.out; omega⟩, ⟨fun k hk => by
              by_cases hkk : k = i * rh + j
              · rw [hkk, HCE.out]; exact HVZ.out
              · exact HF2.out k (by omega)⟩, HB4⟩
          · have hvb : (rAt W H l (X + i) (Y + j) != 0) = true := bne_iff_ne.2 hv
            have HVZ := Aside0.mk hv
            clear hv
            go_wp2_with (go_at_call 19; refine (RAt.calls g W H l (X + i) (Y + j) _ HRS.out HL.out).mono ?_; rintro e w2 ⟨rfl, hb⟩; have HB4 := Aside0.mk (below_step HB2.out hb); have HR4 := Aside0.mk (HRS.out.below hb); clear hb)
            go_ret
            exact .inr ⟨⟨i * rh + j, HK.out, by rw [HCE.out]; exact HVZ.out⟩, rfl, HR4.out, gB (HB3.out.trans (HB4.out.mono (by rw [HZ3.out]; omega))) _⟩
        · have cbj : decide (Y + (j : Int) < Y + (rh : Int)) = false := decide_eq_false (by omega)
          have hjj : j = rh := by have := HJ.out; omega
          have cj' : (j < rh) = False := eq_false cj
          have cj2 : decide (j < rh) = false := decide_eq_false cj
          have cj3 : decide ((j : Int) < (rh : Int)) = false := decide_eq_false (by omega)
          have HJJ := Aside0.mk hjj
          have HWI := Aside0.mk (show wrap64 (X + (i : Int) + 1) = X + ((i + 1 : Nat) : Int) by have := HXY.out; have := HCI.out; unfold wrap64; omega)
          clear cj hjj
          go_wp2
          go_roundg d
          case measure => have := HI.out; omega
          case rel => exact ⟨i + 1, by rw [HWI.out], ⟨by have := HI.out; omega⟩, ⟨by have := HF2.out; rw [HJJ.out] at this; rw [Nat.succ_mul]; exact this⟩, HB2⟩
    · have cb : decide (X + (i : Int) < X + (rw : Int)) = false := decide_eq_false (by omega)
      have hii : i = rw := by have := HI.out; omega
      have ci' : (i < rw) = False := eq_false ci
      have ci2 : decide (i < rw) = false := decide_eq_false ci
      have ci3 : decide ((i : Int) < (rw : Int)) = false := decide_eq_false (by omega)
      have HII := Aside0.mk hii
      have hrs := HG3.out.below HB.out
      obtain ⟨A2, c2, hg2, hC2, hc2⟩ := hrs
      have HGW := Aside0.mk hg2
      have HC2 := Aside0.mk hC2
      have k2 := (blk_cell (blk_alloc hg2 (.cells #[] 59)) 2).trans (show _ = some (Value.slice A2 l.length c2) from rfl)
      have HBXW := Aside0.mk hbx
      have hgr : g < wr.heap.size := blk_lt hg2
      have hwr : w.heap.size ≤ wr.heap.size := by have := HB.out.size; have := HZ3.out; omega
      have HGR := Aside0.mk (show g < wr.heap.size ∧ w.heap.size ≤ wr.heap.size from ⟨hgr, hwr⟩)
      clear ci hii hbx hg2 hC2 hgr hwr
      go_wp2_with (first
        | ((with_reducible refine gate_builtin (b := .append) (xs := #[.tmp 71, .tmp 75]) rfl ?_); at_builtin; refine Kd.R_append_rows k59 (w0 := wr) wr.heap.size rfl (.tmp 71) (.tmp 75) 53 59 (.agg #[.int .i64 0, .int .i64 0, .int .i64 0, .int .i64 0, .int .i64 0]) 40 rfl Try.underlying53 info59 rfl (by decide) (by omega) (.slice (some ⟨wr.heap.size, 0, none⟩) 0 0) [] l A2 l.length c2 (fun _ => True) (fun _ => False) rfl rfl (R_new0 k59 59 wr wr.heap.size (Nat.le_refl _)) (Kd.C_alloc HC2.out _) K59_M (fun _ h => h.elim) (fun _ _ => trivial) (below_alloc (Below.refl _ _) _) (by simp) (by have := HL.out; simp; omega) ?_; intro v1 w1 ho hb _ _; have HO1 := Aside0.mk ho; have HBa := Aside0.mk hb; have hbx1 := blk_below HBXW.out hb; have HBXa := Aside0.mk hbx1; have y0 := cI hbx1 0 (v := .int .i64 X) rfl; have y1 := cI hbx1 1 (v := .int .i64 Y) rfl; have y2 := cI hbx1 2 (v := .int .i64 rw) rfl; have y3 := cI hbx1 3 (v := .int .i64 rh) rfl; clear ho hb hbx1)
        | ((with_reducible refine gate_builtin (b := .append) (xs := #[.tmp 77, .tmp 82]) rfl ?_); fail)
        | ((with_reducible refine gate_builtin (b := .append) (xs := #[.tmp 77, .tmp 81]) rfl ?_); at_builtin; refine Kd.R_append k59 (w0 := wr) wr.heap.size rfl (.tmp 77) (.tmp 81) 53 59 (.agg #[.int .i64 0, .int .i64 0, .int .i64 0, .int .i64 0, .int .i64 0]) 40 rfl Try.underlying53 info59 rfl (by decide) (by omega) v1 ([] ++ l) (held X Y rw rh ow) [.int .i64 X, .int .i64 Y, .int .i64 (rw : Int), .int .i64 (rh : Int), .int .i64 ow] (fun _ => True) (fun _ => False) rfl rfl (k59_mkM _ _ _ (held X Y rw rh ow)) (fun _ hk => hk.elim) (fun _ _ => trivial) HO1.out HBa.out HBa.out.size (by have := HL.out; simp; omega) ?_; intro v2 w2 ho hb _ _; obtain ⟨A3, c3, ev⟩ := Kd.R_slice ho; subst ev; have HO2 := Aside0.mk ho; have HBb := Aside0.mk hb; have hgb := blk_below HGW.out hb; have HGb := Aside0.mk hgb; have z2 := (blk_cell hgb 2).trans (show _ = some (Value.slice A2 l.length c2) from rfl); have f2 := bF hgb 2; clear ho hb hgb))
      go_ret
      have hlen : (l ++ [held X Y rw rh ow]).length = l.length + 1 := by simp
      have hR := Kd.R_set HO2.out HGb.out (by decide) 2 (.slice A3 (l.length + 1) c3)
      have hrr := Kd.R_reads' hR
      refine .inl ⟨fun k hk => HF.out k (by rw [HII.out]; exact hk), rfl, ⟨A3, c3, ?_, ?_, ?_⟩, ?_⟩
      · rw [hlen]; exact blk_put HGb.out 2 _ rfl
      · exact hrr.2.2
      · have := hrr.2.1; simpa using this
      · exact (gB (HB3.out.trans (HB.out.mono (by rw [HZ3.out]; omega))) (some g)).trans ((gB HBb.out (some g)).trans (grC2 w2 g 2 _))
end Go.Proofs.Ytpljnkfbcgdafaa.P
