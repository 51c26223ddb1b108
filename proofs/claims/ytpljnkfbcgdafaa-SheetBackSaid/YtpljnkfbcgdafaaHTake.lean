/- sheet.Take: a rect's cells are given an owner. -/
import Derived.Test.YtpljnkfbcgdafaaHCells
import Derived.Test.YtpljnkfbcgdafaaP33
import Derived.RangeFuncNested
import Derived.RangeFuncWrites
namespace Go.Proofs.Ytpljnkfbcgdafaa.P
open Go.RowKit Go.Shelf Go.Proofs.YtpljnkfbcgdafaaW.PrintWords Go.Proofs.YtpljnkfbcgdafaaW.PrintLast Go.Proofs.YtpljnkfbcgdafaaW.PrintMore
set_option linter.unusedVariables false
set_option linter.unusedSimpArgs false
attribute [local go_sem] Oper.semAt_some

def liesB (a n s : Int) : Bool := decide (0 ≤ a) && decide (1 ≤ n) && decide (a < s) && decide (n ≤ s - a)
theorem lies_q (a n s : Int) (hs : 0 ≤ s ∧ s ≤ 1000) (w : World) : Calls Try.prog 29 #[.int .i64 a, .int .i64 n, .int .i64 s] w fun e w' => e = .returned (.bool (liesB a n s)) ∧ ∃ q, w' = w.drewN q := by
  refine (sheet_lies.calls a n s (liesB a n s) w ?_).mono ?_
  · unfold sheet_lies.f liesB
    by_cases h1 : a ≥ 0
    · by_cases h2 : n ≥ 1
      · by_cases h3 : a < s
        · have : wrap64 (s - a) = s - a := by unfold wrap64; omega
          have h2' : 1 ≤ n := h2
          have h1' : 0 ≤ a := h1
          simp [h1', h2', h3, this]
        · simp [h3]
      · have : ¬ 1 ≤ n := h2
        simp [this]
    · have : ¬ 0 ≤ a := h1
      simp [this]
  · rintro e w' ⟨rfl, ⟨q, hq⟩⟩
    exact ⟨rfl, q, hq⟩
theorem results_c1 {fn : Func} {p : Tmp} (h : fn.results = #[.cell p 24]) (tmps : Array Value) (w : World) (g : Nat) (v : Value) (hp : tmps.getD p undef = .pointer (some ⟨g, 0, none⟩)) (hg : w.cell? ⟨g, 0, none⟩ = some v) :
    (results fn tmps).run Try.prog w = .ok v w := by
  have hp' : tmps[p]?.getD undef = .pointer (some ⟨g, 0, none⟩) := by simpa using hp
  have hu := Try.underlying24
  simp [results, h, hp', asAddr]
  go_simp
theorem new_cell (W : World) (v : Value) (t : TypeId) (b : Nat) (hb : b = W.heap.size) : (W.alloc (.cells #[v] t)).cell? ⟨b, 0, none⟩ = some v := by
  subst hb; exact (Boxed.new W t v).cell
set_option maxHeartbeats 2000000 in
set_option maxRecDepth 100000 in
theorem Take_nil.calls (X Y Rw Rh ow : Int) (w : World) :
    Calls Try.prog 20 #[.pointer none, .agg #[.int .i64 X, .int .i64 Y, .int .i64 Rw, .int .i64 Rh], .int .i64 ow] w fun e w' => e = .returned (.int .i64 1) ∧ Below w.heap.size w w' := by
  have hu32 := Try.underlying32
  go_enter Try.func20, Try.ntmps20
  go_wp2
  refine bodyPost_ret (v := .int .i64 1) (results_c1 rfl _ _ (w.heap.size + 1 + 1 + 1) _ rfl (new_cell _ _ _ _ (by simp))) rfl ⟨rfl, ?_⟩
  exact ((((Below.refl _ w).alloc (Nat.le_refl _) _).alloc (by simp) _).alloc (by simp; omega) _).alloc (by simp; omega) _
/-- What Take has in memory. -/
structure TS (w : World) (p mb : Nat) (W H X Y Rw Rh ow : Int) (es : List Ent) (e : Int) (V : World) : Prop where
  sh : Sh V p mb W H es
  b0 : Boxed V w.heap.size 23 (.pointer (some ⟨p, 0, none⟩))
  b1 : V.heap[w.heap.size + 1]? = some (.cells #[.int .i64 X, .int .i64 Y, .int .i64 Rw, .int .i64 Rh] 32 (0, 0))
  b2 : Boxed V (w.heap.size + 1 + 1) 3 (.int .i64 ow)
  b3 : Boxed V (w.heap.size + 1 + 1 + 1) 24 (.int .i64 e)
  gr : w.grownBy V (some mb)
section
variable {w V V' : World} {p mb : Nat} {W H X Y Rw Rh ow e : Int} {es es' : List Ent}
theorem TS.start (h : Sh w p mb W H es) (X Y Rw Rh ow : Int) :
    TS w p mb W H X Y Rw Rh ow es 0 ((((w.alloc (.cells #[.pointer (some ⟨p, 0, none⟩)] 23)).alloc (.cells #[.int .i64 X, .int .i64 Y, .int .i64 Rw, .int .i64 Rh] 32)).alloc (.cells #[.int .i64 ow] 3)).alloc (.cells #[.int .i64 0] 24)) := by
  have g1 := World.grownBy_alloc w (.cells #[.pointer (some ⟨p, 0, none⟩)] 23) (some mb)
  have a0 := Boxed.new w 23 (.pointer (some ⟨p, 0, none⟩))
  have a1 := blk_new (w.alloc (.cells #[.pointer (some ⟨p, 0, none⟩)] 23)) (.cells #[.int .i64 X, .int .i64 Y, .int .i64 Rw, .int .i64 Rh] 32)
  have a2 := Boxed.new ((w.alloc (.cells #[.pointer (some ⟨p, 0, none⟩)] 23)).alloc (.cells #[.int .i64 X, .int .i64 Y, .int .i64 Rw, .int .i64 Rh] 32)) 3 (.int .i64 ow)
  have a3 := Boxed.new (((w.alloc (.cells #[.pointer (some ⟨p, 0, none⟩)] 23)).alloc (.cells #[.int .i64 X, .int .i64 Y, .int .i64 Rw, .int .i64 Rh] 32)).alloc (.cells #[.int .i64 ow] 3)) 24 (.int .i64 0)
  simp only [World.size_alloc] at a1 a2 a3
  refine ⟨?_, ((a0.alloc _).alloc _).alloc _, blk_alloc (blk_alloc a1 _) _, a2.alloc _, a3, ?_⟩
  · exact (((h.kept (World.grownBy_alloc w _ none) (by simp) (by simp)).kept (World.grownBy_alloc _ _ none) (by simp) (by simp)).kept (World.grownBy_alloc _ _ none) (by simp) (by simp)).kept (World.grownBy_alloc _ _ none) (by simp) (by simp)
  · exact (((World.grownBy_alloc w _ (some mb)).trans (World.grownBy_alloc _ _ _)).trans (World.grownBy_alloc _ _ _)).trans (World.grownBy_alloc _ _ _)
theorem TS.size (h : TS w p mb W H X Y Rw Rh ow es e V) : w.heap.size + 3 < V.heap.size := h.b3.lt
theorem TS.mlt (h0 : Sh w p mb W H es') : mb < w.heap.size := h0.own.lt
theorem TS.kept {row : Option Nat} (h : TS w p mb W H X Y Rw Rh ow es e V) (hm : mb < w.heap.size) (hp : p < w.heap.size) (hg : V.grownBy V' row) (hr : ∀ r, row = some r → w.heap.size + 4 ≤ r) : TS w p mb W H X Y Rw Rh ow es e V' :=
  ⟨h.sh.kept hg (fun e => by have := hr _ e.symm; omega) (fun e => by have := hr _ e.symm; omega), h.b0.kept hg (fun e => by have := hr _ e.symm; omega), blk_grown h.b1 hg (fun e => by have := hr _ e.symm; omega), h.b2.kept hg (fun e => by have := hr _ e.symm; omega), h.b3.kept hg (fun e => by have := hr _ e.symm; omega),
    h.gr.andThen hg (fun j hj => .inl (by have := hr j hj; omega))⟩
theorem grD (V : World) (q : Nat) : V.grownBy (V.drewN q) none := by
  have hb := pw_below_drewN (Below.refl V.heap.size V) q
  refine ⟨by simp [World.drewN], by simp [World.drewN], by simp [World.drewN], hb.size, fun i hi _ => hb.block i hi⟩
theorem TS.put (h : TS w p mb W H X Y Rw Rh ow es e V) (hm : mb < w.heap.size) (hp : p < w.heap.size) (hg : V.grownBy V' (some mb)) (ho : OwnE V' mb es') : TS w p mb W H X Y Rw Rh ow es' e V' :=
  ⟨⟨blk_grown h.sh.blk hg (fun e => by cases e; exact h.sh.ne rfl), ho⟩, h.b0.kept hg (by first | (simp; done) | (simp; omega)), blk_grown h.b1 hg (by first | (simp; done) | (simp; omega)), h.b2.kept hg (by first | (simp; done) | (simp; omega)), h.b3.kept hg (by first | (simp; done) | (simp; omega)), h.gr.trans hg⟩
theorem TS.setE (h : TS w p mb W H X Y Rw Rh ow es e V) (hm : mb < w.heap.size) (hp : p < w.heap.size) (e' : Int) : TS w p mb W H X Y Rw Rh ow es e' (V.setCell ⟨w.heap.size + 1 + 1 + 1, 0, none⟩ (.int .i64 e')) := by
  have hg : V.grownBy (V.setCell ⟨w.heap.size + 1 + 1 + 1, 0, none⟩ (.int .i64 e')) (some (w.heap.size + 1 + 1 + 1)) := grownBy_setCell' V _ _
  exact ⟨h.sh.kept hg (by first | (simp; done) | (simp; omega)) (by first | (simp; done) | (simp; omega)), h.b0.kept hg (by first | (simp; done) | (simp; omega)), blk_grown h.b1 hg (by first | (simp; done) | (simp; omega)), h.b2.kept hg (by simp), h.b3.set _, h.gr.andThen hg (fun j hj => .inl (by cases hj; omega))⟩
end
set_option maxHeartbeats 4000000 in
set_option maxRecDepth 100000 in
theorem Take_no1 (p mb : Nat) (W H : Int) (es : List Ent) (X Y Rw Rh ow : Int) (w : World) (h : Sh w p mb W H es) (hW : 0 ≤ W ∧ W ≤ 1000) (hH : 0 ≤ H ∧ H ≤ 1000) (l1 : liesB X Rw W = false) :
    Calls Try.prog 20 #[.pointer (some ⟨p, 0, none⟩), .agg #[.int .i64 X, .int .i64 Y, .int .i64 Rw, .int .i64 Rh], .int .i64 ow] w fun e w' => e = .returned (.int .i64 201) ∧ Sh w' p mb W H es ∧ w.grownBy w' (some mb) := by
  have hu32 := Try.underlying32
  have hu52 := Try.underlying52
  have ht := TS.start h X Y Rw Rh ow
  have HM := Aside0.mk (show mb < w.heap.size ∧ p < w.heap.size from ⟨h.own.lt, h.lt⟩)
  have L1 := Aside0.mk (lies_q X Rw W hW)
  have L2 := Aside0.mk (lies_q Y Rh H hH)
  rw [l1] at L1
  clear l1
  obtain ⟨W0, hW0⟩ : ∃ W0, ((((w.alloc (.cells #[.pointer (some ⟨p, 0, none⟩)] 23)).alloc (.cells #[.int .i64 X, .int .i64 Y, .int .i64 Rw, .int .i64 Rh] 32)).alloc (.cells #[.int .i64 ow] 3)).alloc (.cells #[.int .i64 0] 24)) = W0 := ⟨_, rfl⟩
  rw [hW0] at ht
  have HT := Aside0.mk ht
  have HW0 := Aside0.mk hW0
  clear ht hW0 h hW hH
  go_enter Try.func20, Try.ntmps20
  go_upto_region 3 with (fail)
  rw [HW0.out]
  have q0 := HT.out.b0.cell
  have q1 := cI HT.out.b1 0 (v := .int .i64 X) rfl
  have q2 := cI HT.out.b1 1 (v := .int .i64 Y) rfl
  have q3 := cI HT.out.b1 2 (v := .int .i64 Rw) rfl
  have q4 := cI HT.out.b1 3 (v := .int .i64 Rh) rfl
  have q5 := HT.out.b2.cell
  have q6 := HT.out.sh.c0
  have q7 := HT.out.sh.c1
  have q8 := HT.out.b3.cell
  have q9 := HT.out.b3.frozen
  go_wp2
  go_quiet (first | (go_at_call 29; with_reducible exact Calls.quiet_of (L1.out _)) | (go_at_call 29; with_reducible exact Calls.quiet_of (L2.out _)))
  go_wp2
  have HF := ((HT.out.kept HM.out.1 HM.out.2 (grD W0 nq) (fun r e => by cases e)).setE HM.out.1 HM.out.2 201)
  refine bodyPost_ret (v := .int .i64 201) (results_c1 rfl _ _ (w.heap.size + 1 + 1 + 1) _ rfl ?_) rfl ⟨rfl, ?_, ?_⟩
  · exact HF.b3.cell
  · exact HF.sh
  · exact HF.gr
set_option maxHeartbeats 4000000 in
set_option maxRecDepth 100000 in
theorem Take_no2 (p mb : Nat) (W H : Int) (es : List Ent) (X Y Rw Rh ow : Int) (w : World) (h : Sh w p mb W H es) (hW : 0 ≤ W ∧ W ≤ 1000) (hH : 0 ≤ H ∧ H ≤ 1000) (l1 : liesB X Rw W = true) (l2 : liesB Y Rh H = false) :
    Calls Try.prog 20 #[.pointer (some ⟨p, 0, none⟩), .agg #[.int .i64 X, .int .i64 Y, .int .i64 Rw, .int .i64 Rh], .int .i64 ow] w fun e w' => e = .returned (.int .i64 201) ∧ Sh w' p mb W H es ∧ w.grownBy w' (some mb) := by
  have hu32 := Try.underlying32
  have hu52 := Try.underlying52
  have ht := TS.start h X Y Rw Rh ow
  have HM := Aside0.mk (show mb < w.heap.size ∧ p < w.heap.size from ⟨h.own.lt, h.lt⟩)
  have L1 := Aside0.mk (lies_q X Rw W hW)
  have L2 := Aside0.mk (lies_q Y Rh H hH)
  rw [l1] at L1
  rw [l2] at L2
  clear l1 l2
  obtain ⟨W0, hW0⟩ : ∃ W0, ((((w.alloc (.cells #[.pointer (some ⟨p, 0, none⟩)] 23)).alloc (.cells #[.int .i64 X, .int .i64 Y, .int .i64 Rw, .int .i64 Rh] 32)).alloc (.cells #[.int .i64 ow] 3)).alloc (.cells #[.int .i64 0] 24)) = W0 := ⟨_, rfl⟩
  rw [hW0] at ht
  have HT := Aside0.mk ht
  have HW0 := Aside0.mk hW0
  clear ht hW0 h hW hH
  go_enter Try.func20, Try.ntmps20
  go_upto_region 3 with (fail)
  rw [HW0.out]
  have q0 := HT.out.b0.cell
  have q1 := cI HT.out.b1 0 (v := .int .i64 X) rfl
  have q2 := cI HT.out.b1 1 (v := .int .i64 Y) rfl
  have q3 := cI HT.out.b1 2 (v := .int .i64 Rw) rfl
  have q4 := cI HT.out.b1 3 (v := .int .i64 Rh) rfl
  have q5 := HT.out.b2.cell
  have q6 := HT.out.sh.c0
  have q7 := HT.out.sh.c1
  have q8 := HT.out.b3.cell
  have q9 := HT.out.b3.frozen
  go_wp2
  go_quiet (first | (go_at_call 29; with_reducible exact Calls.quiet_of (L1.out _)) | (go_at_call 29; with_reducible exact Calls.quiet_of (L2.out _)))
  go_wp2
  have HF := ((HT.out.kept HM.out.1 HM.out.2 (grD W0 nq) (fun r e => by cases e)).setE HM.out.1 HM.out.2 201)
  refine bodyPost_ret (v := .int .i64 201) (results_c1 rfl _ _ (w.heap.size + 1 + 1 + 1) _ rfl ?_) rfl ⟨rfl, ?_, ?_⟩
  · exact HF.b3.cell
  · exact HF.sh
  · exact HF.gr
set_option maxHeartbeats 4000000 in
set_option maxRecDepth 100000 in
theorem Take_no3 (p mb : Nat) (W H : Int) (es : List Ent) (X Y Rw Rh ow : Int) (w : World) (h : Sh w p mb W H es) (hW : 0 ≤ W ∧ W ≤ 1000) (hH : 0 ≤ H ∧ H ≤ 1000) (l1 : liesB X Rw W = true) (l2 : liesB Y Rh H = true) (ho : ow < 1) :
    Calls Try.prog 20 #[.pointer (some ⟨p, 0, none⟩), .agg #[.int .i64 X, .int .i64 Y, .int .i64 Rw, .int .i64 Rh], .int .i64 ow] w fun e w' => e = .returned (.int .i64 201) ∧ Sh w' p mb W H es ∧ w.grownBy w' (some mb) := by
  have hu32 := Try.underlying32
  have hu52 := Try.underlying52
  have ht := TS.start h X Y Rw Rh ow
  have HM := Aside0.mk (show mb < w.heap.size ∧ p < w.heap.size from ⟨h.own.lt, h.lt⟩)
  have L1 := Aside0.mk (lies_q X Rw W hW)
  have L2 := Aside0.mk (lies_q Y Rh H hH)
  rw [l1] at L1
  rw [l2] at L2
  have ho1 : decide (ow < 1) = true := decide_eq_true ho
  clear l1 l2 ho
  obtain ⟨W0, hW0⟩ : ∃ W0, ((((w.alloc (.cells #[.pointer (some ⟨p, 0, none⟩)] 23)).alloc (.cells #[.int .i64 X, .int .i64 Y, .int .i64 Rw, .int .i64 Rh] 32)).alloc (.cells #[.int .i64 ow] 3)).alloc (.cells #[.int .i64 0] 24)) = W0 := ⟨_, rfl⟩
  rw [hW0] at ht
  have HT := Aside0.mk ht
  have HW0 := Aside0.mk hW0
  clear ht hW0 h hW hH
  go_enter Try.func20, Try.ntmps20
  go_upto_region 3 with (fail)
  rw [HW0.out]
  have q0 := HT.out.b0.cell
  have q1 := cI HT.out.b1 0 (v := .int .i64 X) rfl
  have q2 := cI HT.out.b1 1 (v := .int .i64 Y) rfl
  have q3 := cI HT.out.b1 2 (v := .int .i64 Rw) rfl
  have q4 := cI HT.out.b1 3 (v := .int .i64 Rh) rfl
  have q5 := HT.out.b2.cell
  have q6 := HT.out.sh.c0
  have q7 := HT.out.sh.c1
  have q8 := HT.out.b3.cell
  have q9 := HT.out.b3.frozen
  go_wp2
  go_quiet (first | (go_at_call 29; with_reducible exact Calls.quiet_of (L1.out _)) | (go_at_call 29; with_reducible exact Calls.quiet_of (L2.out _)))
  go_wp2
  have HF := ((HT.out.kept HM.out.1 HM.out.2 (grD W0 nq) (fun r e => by cases e)).setE HM.out.1 HM.out.2 201)
  refine bodyPost_ret (v := .int .i64 201) (results_c1 rfl _ _ (w.heap.size + 1 + 1 + 1) _ rfl ?_) rfl ⟨rfl, ?_, ?_⟩
  · exact HF.b3.cell
  · exact HF.sh
  · exact HF.gr
set_option maxHeartbeats 4000000 in
set_option maxRecDepth 100000 in
theorem Take_no4 (p mb : Nat) (W H : Int) (es : List Ent) (X Y Rw Rh ow : Int) (w : World) (h : Sh w p mb W H es) (hW : 0 ≤ W ∧ W ≤ 1000) (hH : 0 ≤ H ∧ H ≤ 1000) (l1 : liesB X Rw W = true) (l2 : liesB Y Rh H = true) (ho : 1 ≤ ow) (ho2 : 1048576 < ow) :
    Calls Try.prog 20 #[.pointer (some ⟨p, 0, none⟩), .agg #[.int .i64 X, .int .i64 Y, .int .i64 Rw, .int .i64 Rh], .int .i64 ow] w fun e w' => e = .returned (.int .i64 201) ∧ Sh w' p mb W H es ∧ w.grownBy w' (some mb) := by
  have hu32 := Try.underlying32
  have hu52 := Try.underlying52
  have ht := TS.start h X Y Rw Rh ow
  have HM := Aside0.mk (show mb < w.heap.size ∧ p < w.heap.size from ⟨h.own.lt, h.lt⟩)
  have L1 := Aside0.mk (lies_q X Rw W hW)
  have L2 := Aside0.mk (lies_q Y Rh H hH)
  rw [l1] at L1
  rw [l2] at L2
  have ho1 : decide (ow < 1) = false := decide_eq_false (by omega)
  have ho3 : decide (1048576 < ow) = true := decide_eq_true ho2
  clear l1 l2 ho ho2
  obtain ⟨W0, hW0⟩ : ∃ W0, ((((w.alloc (.cells #[.pointer (some ⟨p, 0, none⟩)] 23)).alloc (.cells #[.int .i64 X, .int .i64 Y, .int .i64 Rw, .int .i64 Rh] 32)).alloc (.cells #[.int .i64 ow] 3)).alloc (.cells #[.int .i64 0] 24)) = W0 := ⟨_, rfl⟩
  rw [hW0] at ht
  have HT := Aside0.mk ht
  have HW0 := Aside0.mk hW0
  clear ht hW0 h hW hH
  go_enter Try.func20, Try.ntmps20
  go_upto_region 3 with (fail)
  rw [HW0.out]
  have q0 := HT.out.b0.cell
  have q1 := cI HT.out.b1 0 (v := .int .i64 X) rfl
  have q2 := cI HT.out.b1 1 (v := .int .i64 Y) rfl
  have q3 := cI HT.out.b1 2 (v := .int .i64 Rw) rfl
  have q4 := cI HT.out.b1 3 (v := .int .i64 Rh) rfl
  have q5 := HT.out.b2.cell
  have q6 := HT.out.sh.c0
  have q7 := HT.out.sh.c1
  have q8 := HT.out.b3.cell
  have q9 := HT.out.b3.frozen
  go_wp2
  go_quiet (first | (go_at_call 29; with_reducible exact Calls.quiet_of (L1.out _)) | (go_at_call 29; with_reducible exact Calls.quiet_of (L2.out _)))
  go_wp2
  have HF := ((HT.out.kept HM.out.1 HM.out.2 (grD W0 nq) (fun r e => by cases e)).setE HM.out.1 HM.out.2 201)
  refine bodyPost_ret (v := .int .i64 201) (results_c1 rfl _ _ (w.heap.size + 1 + 1 + 1) _ rfl ?_) rfl ⟨rfl, ?_, ?_⟩
  · exact HF.b3.cell
  · exact HF.sh
  · exact HF.gr
theorem Take_no.calls (p mb : Nat) (W H : Int) (es : List Ent) (X Y Rw Rh ow : Int) (w : World) (h : Sh w p mb W H es) (hW : 0 ≤ W ∧ W ≤ 1000) (hH : 0 ≤ H ∧ H ≤ 1000)
    (hno : ¬ (liesB X Rw W = true ∧ liesB Y Rh H = true ∧ 1 ≤ ow ∧ ow ≤ 1048576)) :
    Calls Try.prog 20 #[.pointer (some ⟨p, 0, none⟩), .agg #[.int .i64 X, .int .i64 Y, .int .i64 Rw, .int .i64 Rh], .int .i64 ow] w fun e w' => e = .returned (.int .i64 201) ∧ Sh w' p mb W H es ∧ w.grownBy w' (some mb) := by
  cases l1 : liesB X Rw W with
  | false => exact Take_no1 p mb W H es X Y Rw Rh ow w h hW hH l1
  | true =>
    cases l2 : liesB Y Rh H with
    | false => exact Take_no2 p mb W H es X Y Rw Rh ow w h hW hH l1 l2
    | true =>
      by_cases ho : 1 ≤ ow
      · by_cases ho2 : ow ≤ 1048576
        · exact absurd ⟨l1, l2, ho, ho2⟩ hno
        · exact Take_no4 p mb W H es X Y Rw Rh ow w h hW hH l1 l2 ho (by omega)
      · exact Take_no3 p mb W H es X Y Rw Rh ow w h hW hH l1 l2 (by omega)
-- REST
end Go.Proofs.Ytpljnkfbcgdafaa.P
