/- The document's Take. -/
import Derived.Test.YtpljnkfbcgdafaaHRef
import Derived.Test.YtpljnkfbcgdafaaHTake2
namespace Go.Proofs.Ytpljnkfbcgdafaa.P
open Go.RowKit Go.Shelf Go.Proofs.YtpljnkfbcgdafaaW.PrintWords Go.Proofs.YtpljnkfbcgdafaaW.PrintLast Go.Proofs.YtpljnkfbcgdafaaW.PrintMore
set_option linter.unusedVariables false
set_option linter.unusedSimpArgs false

theorem rlies_q (a n s : Int) (hs : 0 ≤ s ∧ s ≤ 1000) (w : World) : Calls Try.prog 33 #[.int .i64 a, .int .i64 n, .int .i64 s] w fun e w' => e = .returned (.bool (liesB a n s)) ∧ ∃ q, w' = w.drewN q := by
  refine (frisketref20_lies.calls a n s (liesB a n s) w ?_).mono ?_
  · unfold frisketref20_lies.f liesB
    by_cases h1 : a ≥ 0
    · by_cases h2 : n ≥ 1
      · by_cases h3 : a < s
        · have : wrap64 (s - a) = s - a := by unfold wrap64; omega
          have h2' : 1 ≤ n := h2
          have h1' : 0 ≤ a := h1
          simp [h1', h2', h3, this]
        · simp [h3]
      · have : ¬ 1 ≤ n := h2
        simp [this]
    · have : ¬ 0 ≤ a := h1
      simp [this]
  · rintro e w' ⟨rfl, ⟨q, hq⟩⟩
    exact ⟨rfl, q, hq⟩
set_option maxHeartbeats 4000000 in
set_option maxRecDepth 100000 in
theorem RTake_no1t (g : Nat) (W H : Int) (l : List S59) (X Y Rw Rh ow : Int) (w : World) (h : RSh w g W H l) (hW : 0 ≤ W ∧ W ≤ 1000) (hH : 0 ≤ H ∧ H ≤ 1000) (l1 : liesB X Rw W = false) (l2 : liesB Y Rh H = true) :
    Calls Try.prog 24 #[.pointer (some ⟨g, 0, none⟩), .agg #[.int .i64 X, .int .i64 Y, .int .i64 Rw, .int .i64 Rh], .int .i64 ow] w fun e w' => e = .returned (.int .i64 201) ∧ Below w.heap.size w w' := by
  have hu32 := Try.underlying32
  have hu55 := Try.underlying55
  have L1 := Aside0.mk (rlies_q X Rw W hW)
  have L2 := Aside0.mk (rlies_q Y Rh H hH)
  rw [l1] at L1
  rw [l2] at L2
  clear l1 l2
  have hw1 : Below w.heap.size w (w.alloc (.cells #[.int .i64 X, .int .i64 Y, .int .i64 Rw, .int .i64 Rh] 32)) := below_alloc (Below.refl _ _) _
  have hb1 := blk_new w (.cells #[.int .i64 X, .int .i64 Y, .int .i64 Rw, .int .i64 Rh] 32)
  have hs1 := h.below hw1
  obtain ⟨V, hV⟩ : ∃ V, w.alloc (.cells #[.int .i64 X, .int .i64 Y, .int .i64 Rw, .int .i64 Rh] 32) = V := ⟨_, rfl⟩
  rw [hV] at hw1 hb1 hs1
  obtain ⟨A, c, hg, hC, hc⟩ := hs1
  have HV := Aside0.mk hV
  have HW1 := Aside0.mk hw1
  have HG := Aside0.mk hg
  have HC := Aside0.mk hC
  have HCC := Aside0.mk hc
  have HB1 := Aside0.mk hb1
  have q0 := cI hb1 0 (v := .int .i64 X) rfl
  have q1 := cI hb1 1 (v := .int .i64 Y) rfl
  have q2 := cI hb1 2 (v := .int .i64 Rw) rfl
  have q3 := cI hb1 3 (v := .int .i64 Rh) rfl
  have g0 := cI hg 0 (v := .int .i64 W) rfl
  have g1 := cI hg 1 (v := .int .i64 H) rfl
  clear hV hw1 hg hC hc hb1 h hW hH
  go_enter Try.func24, Try.ntmps24
  go_upto_region 1 with (fail)
  rw [HV.out]
  go_wp2
  go_quiet (first | (go_at_call 33; with_reducible exact Calls.quiet_of (L1.out _)) | (go_at_call 33; with_reducible exact Calls.quiet_of (L2.out _)))
  go_upto_region 2 with (fail)
  obtain ⟨V2, hV2⟩ : ∃ V2, V.drewN nq = V2 := ⟨_, rfl⟩
  have HV2 := Aside0.mk hV2
  rw [hV2]
  have e0 : ∀ a, V2.cell? a = V.cell? a := by intro a; rw [← hV2]; rfl
  have q0' := (e0 _).trans q0
  have q1' := (e0 _).trans q1
  have q2' := (e0 _).trans q2
  have q3' := (e0 _).trans q3
  have g0' := (e0 _).trans g0
  have g1' := (e0 _).trans g1
  clear q0 q1 q2 q3 g0 g1 e0 hV2
  go_wp2
  go_quiet (first | (go_at_call 33; with_reducible exact Calls.quiet_of (L1.out _)) | (go_at_call 33; with_reducible exact Calls.quiet_of (L2.out _)))
  go_wp2
  go_ret
  exact ⟨rfl, pw_below_drewN (by rw [← HV2.out]; exact pw_below_drewN HW1.out _) _⟩
set_option maxHeartbeats 4000000 in
set_option maxRecDepth 100000 in
theorem RTake_no1f (g : Nat) (W H : Int) (l : List S59) (X Y Rw Rh ow : Int) (w : World) (h : RSh w g W H l) (hW : 0 ≤ W ∧ W ≤ 1000) (hH : 0 ≤ H ∧ H ≤ 1000) (l1 : liesB X Rw W = false) (l2 : liesB Y Rh H = false) :
    Calls Try.prog 24 #[.pointer (some ⟨g, 0, none⟩), .agg #[.int .i64 X, .int .i64 Y, .int .i64 Rw, .int .i64 Rh], .int .i64 ow] w fun e w' => e = .returned (.int .i64 201) ∧ Below w.heap.size w w' := by
  have hu32 := Try.underlying32
  have hu55 := Try.underlying55
  have L1 := Aside0.mk (rlies_q X Rw W hW)
  have L2 := Aside0.mk (rlies_q Y Rh H hH)
  rw [l1] at L1
  rw [l2] at L2
  clear l1 l2
  have hw1 : Below w.heap.size w (w.alloc (.cells #[.int .i64 X, .int .i64 Y, .int .i64 Rw, .int .i64 Rh] 32)) := below_alloc (Below.refl _ _) _
  have hb1 := blk_new w (.cells #[.int .i64 X, .int .i64 Y, .int .i64 Rw, .int .i64 Rh] 32)
  have hs1 := h.below hw1
  obtain ⟨V, hV⟩ : ∃ V, w.alloc (.cells #[.int .i64 X, .int .i64 Y, .int .i64 Rw, .int .i64 Rh] 32) = V := ⟨_, rfl⟩
  rw [hV] at hw1 hb1 hs1
  obtain ⟨A, c, hg, hC, hc⟩ := hs1
  have HV := Aside0.mk hV
  have HW1 := Aside0.mk hw1
  have HG := Aside0.mk hg
  have HC := Aside0.mk hC
  have HCC := Aside0.mk hc
  have HB1 := Aside0.mk hb1
  have q0 := cI hb1 0 (v := .int .i64 X) rfl
  have q1 := cI hb1 1 (v := .int .i64 Y) rfl
  have q2 := cI hb1 2 (v := .int .i64 Rw) rfl
  have q3 := cI hb1 3 (v := .int .i64 Rh) rfl
  have g0 := cI hg 0 (v := .int .i64 W) rfl
  have g1 := cI hg 1 (v := .int .i64 H) rfl
  clear hV hw1 hg hC hc hb1 h hW hH
  go_enter Try.func24, Try.ntmps24
  go_upto_region 1 with (fail)
  rw [HV.out]
  go_wp2
  go_quiet (first | (go_at_call 33; with_reducible exact Calls.quiet_of (L1.out _)) | (go_at_call 33; with_reducible exact Calls.quiet_of (L2.out _)))
  go_upto_region 2 with (fail)
  obtain ⟨V2, hV2⟩ : ∃ V2, V.drewN nq = V2 := ⟨_, rfl⟩
  have HV2 := Aside0.mk hV2
  rw [hV2]
  have e0 : ∀ a, V2.cell? a = V.cell? a := by intro a; rw [← hV2]; rfl
  have q0' := (e0 _).trans q0
  have q1' := (e0 _).trans q1
  have q2' := (e0 _).trans q2
  have q3' := (e0 _).trans q3
  have g0' := (e0 _).trans g0
  have g1' := (e0 _).trans g1
  clear q0 q1 q2 q3 g0 g1 e0 hV2
  go_wp2
  go_quiet (first | (go_at_call 33; with_reducible exact Calls.quiet_of (L1.out _)) | (go_at_call 33; with_reducible exact Calls.quiet_of (L2.out _)))
  go_wp2
  go_ret
  exact ⟨rfl, pw_below_drewN (by rw [← HV2.out]; exact pw_below_drewN HW1.out _) _⟩
set_option maxHeartbeats 4000000 in
set_option maxRecDepth 100000 in
theorem RTake_no2 (g : Nat) (W H : Int) (l : List S59) (X Y Rw Rh ow : Int) (w : World) (h : RSh w g W H l) (hW : 0 ≤ W ∧ W ≤ 1000) (hH : 0 ≤ H ∧ H ≤ 1000) (l1 : liesB X Rw W = true) (l2 : liesB Y Rh H = false) :
    Calls Try.prog 24 #[.pointer (some ⟨g, 0, none⟩), .agg #[.int .i64 X, .int .i64 Y, .int .i64 Rw, .int .i64 Rh], .int .i64 ow] w fun e w' => e = .returned (.int .i64 201) ∧ Below w.heap.size w w' := by
  have hu32 := Try.underlying32
  have hu55 := Try.underlying55
  have L1 := Aside0.mk (rlies_q X Rw W hW)
  have L2 := Aside0.mk (rlies_q Y Rh H hH)
  rw [l1] at L1
  rw [l2] at L2
  clear l1 l2
  have hw1 : Below w.heap.size w (w.alloc (.cells #[.int .i64 X, .int .i64 Y, .int .i64 Rw, .int .i64 Rh] 32)) := below_alloc (Below.refl _ _) _
  have hb1 := blk_new w (.cells #[.int .i64 X, .int .i64 Y, .int .i64 Rw, .int .i64 Rh] 32)
  have hs1 := h.below hw1
  obtain ⟨V, hV⟩ : ∃ V, w.alloc (.cells #[.int .i64 X, .int .i64 Y, .int .i64 Rw, .int .i64 Rh] 32) = V := ⟨_, rfl⟩
  rw [hV] at hw1 hb1 hs1
  obtain ⟨A, c, hg, hC, hc⟩ := hs1
  have HV := Aside0.mk hV
  have HW1 := Aside0.mk hw1
  have HG := Aside0.mk hg
  have HC := Aside0.mk hC
  have HCC := Aside0.mk hc
  have HB1 := Aside0.mk hb1
  have q0 := cI hb1 0 (v := .int .i64 X) rfl
  have q1 := cI hb1 1 (v := .int .i64 Y) rfl
  have q2 := cI hb1 2 (v := .int .i64 Rw) rfl
  have q3 := cI hb1 3 (v := .int .i64 Rh) rfl
  have g0 := cI hg 0 (v := .int .i64 W) rfl
  have g1 := cI hg 1 (v := .int .i64 H) rfl
  clear hV hw1 hg hC hc hb1 h hW hH
  go_enter Try.func24, Try.ntmps24
  go_upto_region 1 with (fail)
  rw [HV.out]
  go_wp2
  go_quiet (first | (go_at_call 33; with_reducible exact Calls.quiet_of (L1.out _)) | (go_at_call 33; with_reducible exact Calls.quiet_of (L2.out _)))
  go_upto_region 2 with (fail)
  obtain ⟨V2, hV2⟩ : ∃ V2, V.drewN nq = V2 := ⟨_, rfl⟩
  have HV2 := Aside0.mk hV2
  rw [hV2]
  have e0 : ∀ a, V2.cell? a = V.cell? a := by intro a; rw [← hV2]; rfl
  have q0' := (e0 _).trans q0
  have q1' := (e0 _).trans q1
  have q2' := (e0 _).trans q2
  have q3' := (e0 _).trans q3
  have g0' := (e0 _).trans g0
  have g1' := (e0 _).trans g1
  clear q0 q1 q2 q3 g0 g1 e0 hV2
  go_wp2
  go_quiet (first | (go_at_call 33; with_reducible exact Calls.quiet_of (L1.out _)) | (go_at_call 33; with_reducible exact Calls.quiet_of (L2.out _)))
  go_wp2
  go_ret
  exact ⟨rfl, pw_below_drewN (by rw [← HV2.out]; exact pw_below_drewN HW1.out _) _⟩
set_option maxHeartbeats 4000000 in
set_option maxRecDepth 100000 in
theorem RTake_no3 (g : Nat) (W H : Int) (l : List S59) (X Y Rw Rh ow : Int) (w : World) (h : RSh w g W H l) (hW : 0 ≤ W ∧ W ≤ 1000) (hH : 0 ≤ H ∧ H ≤ 1000) (l1 : liesB X Rw W = true) (l2 : liesB Y Rh H = true) (ho : ow < 1) :
    Calls Try.prog 24 #[.pointer (some ⟨g, 0, none⟩), .agg #[.int .i64 X, .int .i64 Y, .int .i64 Rw, .int .i64 Rh], .int .i64 ow] w fun e w' => e = .returned (.int .i64 201) ∧ Below w.heap.size w w' := by
  have hu32 := Try.underlying32
  have hu55 := Try.underlying55
  have L1 := Aside0.mk (rlies_q X Rw W hW)
  have L2 := Aside0.mk (rlies_q Y Rh H hH)
  rw [l1] at L1
  rw [l2] at L2
  have ho1 : decide (ow < 1) = true := decide_eq_true ho
  clear l1 l2 ho
  have hw1 : Below w.heap.size w (w.alloc (.cells #[.int .i64 X, .int .i64 Y, .int .i64 Rw, .int .i64 Rh] 32)) := below_alloc (Below.refl _ _) _
  have hb1 := blk_new w (.cells #[.int .i64 X, .int .i64 Y, .int .i64 Rw, .int .i64 Rh] 32)
  have hs1 := h.below hw1
  obtain ⟨V, hV⟩ : ∃ V, w.alloc (.cells #[.int .i64 X, .int .i64 Y, .int .i64 Rw, .int .i64 Rh] 32) = V := ⟨_, rfl⟩
  rw [hV] at hw1 hb1 hs1
  obtain ⟨A, c, hg, hC, hc⟩ := hs1
  have HV := Aside0.mk hV
  have HW1 := Aside0.mk hw1
  have HG := Aside0.mk hg
  have HC := Aside0.mk hC
  have HCC := Aside0.mk hc
  have HB1 := Aside0.mk hb1
  have q0 := cI hb1 0 (v := .int .i64 X) rfl
  have q1 := cI hb1 1 (v := .int .i64 Y) rfl
  have q2 := cI hb1 2 (v := .int .i64 Rw) rfl
  have q3 := cI hb1 3 (v := .int .i64 Rh) rfl
  have g0 := cI hg 0 (v := .int .i64 W) rfl
  have g1 := cI hg 1 (v := .int .i64 H) rfl
  clear hV hw1 hg hC hc hb1 h hW hH
  go_enter Try.func24, Try.ntmps24
  go_upto_region 1 with (fail)
  rw [HV.out]
  go_wp2
  go_quiet (first | (go_at_call 33; with_reducible exact Calls.quiet_of (L1.out _)) | (go_at_call 33; with_reducible exact Calls.quiet_of (L2.out _)))
  go_upto_region 2 with (fail)
  obtain ⟨V2, hV2⟩ : ∃ V2, V.drewN nq = V2 := ⟨_, rfl⟩
  have HV2 := Aside0.mk hV2
  rw [hV2]
  have e0 : ∀ a, V2.cell? a = V.cell? a := by intro a; rw [← hV2]; rfl
  have q0' := (e0 _).trans q0
  have q1' := (e0 _).trans q1
  have q2' := (e0 _).trans q2
  have q3' := (e0 _).trans q3
  have g0' := (e0 _).trans g0
  have g1' := (e0 _).trans g1
  clear q0 q1 q2 q3 g0 g1 e0 hV2
  go_wp2
  go_quiet (first | (go_at_call 33; with_reducible exact Calls.quiet_of (L1.out _)) | (go_at_call 33; with_reducible exact Calls.quiet_of (L2.out _)))
  go_wp2
  go_ret
  exact ⟨rfl, pw_below_drewN (by rw [← HV2.out]; exact pw_below_drewN HW1.out _) _⟩
set_option maxHeartbeats 4000000 in
set_option maxRecDepth 100000 in
theorem RTake_no4 (g : Nat) (W H : Int) (l : List S59) (X Y Rw Rh ow : Int) (w : World) (h : RSh w g W H l) (hW : 0 ≤ W ∧ W ≤ 1000) (hH : 0 ≤ H ∧ H ≤ 1000) (l1 : liesB X Rw W = true) (l2 : liesB Y Rh H = true) (ho : 1 ≤ ow) (ho2 : 1048576 < ow) :
    Calls Try.prog 24 #[.pointer (some ⟨g, 0, none⟩), .agg #[.int .i64 X, .int .i64 Y, .int .i64 Rw, .int .i64 Rh], .int .i64 ow] w fun e w' => e = .returned (.int .i64 201) ∧ Below w.heap.size w w' := by
  have hu32 := Try.underlying32
  have hu55 := Try.underlying55
  have L1 := Aside0.mk (rlies_q X Rw W hW)
  have L2 := Aside0.mk (rlies_q Y Rh H hH)
  rw [l1] at L1
  rw [l2] at L2
  have ho1 : decide (ow < 1) = false := decide_eq_false (by omega)
  have ho3 : decide (1048576 < ow) = true := decide_eq_true ho2
  clear l1 l2 ho ho2
  have hw1 : Below w.heap.size w (w.alloc (.cells #[.int .i64 X, .int .i64 Y, .int .i64 Rw, .int .i64 Rh] 32)) := below_alloc (Below.refl _ _) _
  have hb1 := blk_new w (.cells #[.int .i64 X, .int .i64 Y, .int .i64 Rw, .int .i64 Rh] 32)
  have hs1 := h.below hw1
  obtain ⟨V, hV⟩ : ∃ V, w.alloc (.cells #[.int .i64 X, .int .i64 Y, .int .i64 Rw, .int .i64 Rh] 32) = V := ⟨_, rfl⟩
  rw [hV] at hw1 hb1 hs1
  obtain ⟨A, c, hg, hC, hc⟩ := hs1
  have HV := Aside0.mk hV
  have HW1 := Aside0.mk hw1
  have HG := Aside0.mk hg
  have HC := Aside0.mk hC
  have HCC := Aside0.mk hc
  have HB1 := Aside0.mk hb1
  have q0 := cI hb1 0 (v := .int .i64 X) rfl
  have q1 := cI hb1 1 (v := .int .i64 Y) rfl
  have q2 := cI hb1 2 (v := .int .i64 Rw) rfl
  have q3 := cI hb1 3 (v := .int .i64 Rh) rfl
  have g0 := cI hg 0 (v := .int .i64 W) rfl
  have g1 := cI hg 1 (v := .int .i64 H) rfl
  clear hV hw1 hg hC hc hb1 h hW hH
  go_enter Try.func24, Try.ntmps24
  go_upto_region 1 with (fail)
  rw [HV.out]
  go_wp2
  go_quiet (first | (go_at_call 33; with_reducible exact Calls.quiet_of (L1.out _)) | (go_at_call 33; with_reducible exact Calls.quiet_of (L2.out _)))
  go_upto_region 2 with (fail)
  obtain ⟨V2, hV2⟩ : ∃ V2, V.drewN nq = V2 := ⟨_, rfl⟩
  have HV2 := Aside0.mk hV2
  rw [hV2]
  have e0 : ∀ a, V2.cell? a = V.cell? a := by intro a; rw [← hV2]; rfl
  have q0' := (e0 _).trans q0
  have q1' := (e0 _).trans q1
  have q2' := (e0 _).trans q2
  have q3' := (e0 _).trans q3
  have g0' := (e0 _).trans g0
  have g1' := (e0 _).trans g1
  clear q0 q1 q2 q3 g0 g1 e0 hV2
  go_wp2
  go_quiet (first | (go_at_call 33; with_reducible exact Calls.quiet_of (L1.out _)) | (go_at_call 33; with_reducible exact Calls.quiet_of (L2.out _)))
  go_wp2
  go_ret
  exact ⟨rfl, pw_below_drewN (by rw [← HV2.out]; exact pw_below_drewN HW1.out _) _⟩
theorem RTake_no.calls (g : Nat) (W H : Int) (l : List S59) (X Y Rw Rh ow : Int) (w : World) (h : RSh w g W H l) (hW : 0 ≤ W ∧ W ≤ 1000) (hH : 0 ≤ H ∧ H ≤ 1000)
    (hno : ¬ (liesB X Rw W = true ∧ liesB Y Rh H = true ∧ 1 ≤ ow ∧ ow ≤ 1048576)) :
    Calls Try.prog 24 #[.pointer (some ⟨g, 0, none⟩), .agg #[.int .i64 X, .int .i64 Y, .int .i64 Rw, .int .i64 Rh], .int .i64 ow] w fun e w' => e = .returned (.int .i64 201) ∧ Below w.heap.size w w' := by
  cases l1 : liesB X Rw W with
  | false =>
    cases l2 : liesB Y Rh H with
    | false => exact RTake_no1f g W H l X Y Rw Rh ow w h hW hH l1 l2
    | true => exact RTake_no1t g W H l X Y Rw Rh ow w h hW hH l1 l2
  | true =>
    cases l2 : liesB Y Rh H with
    | false => exact RTake_no2 g W H l X Y Rw Rh ow w h hW hH l1 l2
    | true =>
      by_cases ho : 1 ≤ ow
      · by_cases ho2 : ow ≤ 1048576
        · exact absurd ⟨l1, l2, ho, ho2⟩ hno
        · exact RTake_no4 g W H l X Y Rw Rh ow w h hW hH l1 l2 ho (by omega)
      · exact RTake_no3 g W H l X Y Rw Rh ow w h hW hH l1 l2 (by omega)
end Go.Proofs.Ytpljnkfbcgdafaa.P
