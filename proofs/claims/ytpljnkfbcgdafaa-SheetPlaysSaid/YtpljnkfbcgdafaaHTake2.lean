/- sheet.Take: a rect's cells are given an owner. sheet.Take: a rect that lies there. -/
import Derived.Test.YtpljnkfbcgdafaaHCells
import Derived.Test.YtpljnkfbcgdafaaP33
import Derived.RangeFuncNested
import Derived.RangeFuncWrites
import Derived.Sort.QuietIn
import Derived.Sort.CutIn
import Derived.Shelf.RegionOpen

namespace Go.Proofs.Ytpljnkfbcgdafaa.P
open Go.RowKit Go.Shelf Go.Proofs.YtpljnkfbcgdafaaW.PrintWords Go.Proofs.YtpljnkfbcgdafaaW.PrintLast Go.Proofs.YtpljnkfbcgdafaaW.PrintMore
set_option linter.unusedVariables false
set_option linter.unusedSimpArgs false
attribute [local go_sem] Oper.semAt_some

def liesB (a n s : Int) : Bool := decide (0 ≤ a) && decide (1 ≤ n) && decide (a < s) && decide (n ≤ s - a)
theorem lies_q (a n s : Int) (hs : 0 ≤ s ∧ s ≤ 1000) (w : World) : Calls Try.prog 29 #[.int .i64 a, .int .i64 n, .int .i64 s] w fun e w' => e = .returned (.bool (liesB a n s)) ∧ ∃ q, w' = w.drewN q := by
  refine (sheet_lies.calls a n s (liesB a n s) w ?_).mono ?_
  · unfold sheet_lies.f liesB
    by_cases h1 : a ≥ 0
    · by_cases h2 : n ≥ 1
      · by_cases h3 : a < s
        · have : wrap64 (s - a) = s - a := by unfold wrap64; omega
          have h2' : 1 ≤ n := h2
          have h1' : 0 ≤ a := h1
          simp [h1', h2', h3, this]
        · simp [h3]
      · have : ¬ 1 ≤ n := h2
        simp [this]
    · have : ¬ 0 ≤ a := h1
      simp [this]
  · rintro e w' ⟨rfl, ⟨q, hq⟩⟩
    exact ⟨rfl, q, hq⟩
theorem results_c1 {fn : Func} {p : Tmp} (h : fn.results = #[.cell p 24]) (tmps : Array Value) (w : World) (g : Nat) (v : Value) (hp : tmps.getD p undef = .pointer (some ⟨g, 0, none⟩)) (hg : w.cell? ⟨g, 0, none⟩ = some v) :
    (results fn tmps).run Try.prog w = .ok v w := by
  have hp' : tmps[p]?.getD undef = .pointer (some ⟨g, 0, none⟩) := by simpa using hp
  have hu := Try.underlying24
  simp [results, h, hp', asAddr]
  go_simp
theorem new_cell (W : World) (v : Value) (t : TypeId) (b : Nat) (hb : b = W.heap.size) : (W.alloc (.cells #[v] t)).cell? ⟨b, 0, none⟩ = some v := by
  subst hb; exact (Boxed.new W t v).cell
set_option maxHeartbeats 2000000 in
set_option maxRecDepth 100000 in
theorem Take_nil.calls (X Y Rw Rh ow : Int) (w : World) :
    Calls Try.prog 20 #[.pointer none, .agg #[.int .i64 X, .int .i64 Y, .int .i64 Rw, .int .i64 Rh], .int .i64 ow] w fun e w' => e = .returned (.int .i64 1) ∧ Below w.heap.size w w' := by
  have hu32 := Try.underlying32
  go_enter Try.func20, Try.ntmps20
  go_wp2
  refine bodyPost_ret (v := .int .i64 1) (results_c1 rfl _ _ (w.heap.size + 1 + 1 + 1) _ rfl (new_cell _ _ _ _ (by simp))) rfl ⟨rfl, ?_⟩
  exact ((((Below.refl _ w).alloc (Nat.le_refl _) _).alloc (by simp) _).alloc (by simp; omega) _).alloc (by simp; omega) _
/-- What Take has in memory. -/
structure TS (w : World) (p mb : Nat) (W H X Y Rw Rh ow : Int) (es : List Ent) (e : Int) (V : World) : Prop where
  sh : Sh V p mb W H es
  b0 : Boxed V w.heap.size 23 (.pointer (some ⟨p, 0, none⟩))
  b1 : V.heap[w.heap.size + 1]? = some (.cells #[.int .i64 X, .int .i64 Y, .int .i64 Rw, .int .i64 Rh] 32 (0, 0))
  b2 : Boxed V (w.heap.size + 1 + 1) 3 (.int .i64 ow)
  b3 : Boxed V (w.heap.size + 1 + 1 + 1) 24 (.int .i64 e)
  gr : w.grownBy V (some mb)
section
variable {w V V' : World} {p mb : Nat} {W H X Y Rw Rh ow e : Int} {es es' : List Ent}
theorem TS.start (h : Sh w p mb W H es) (X Y Rw Rh ow : Int) :
    TS w p mb W H X Y Rw Rh ow es 0 ((((w.alloc (.cells #[.pointer (some ⟨p, 0, none⟩)] 23)).alloc (.cells #[.int .i64 X, .int .i64 Y, .int .i64 Rw, .int .i64 Rh] 32)).alloc (.cells #[.int .i64 ow] 3)).alloc (.cells #[.int .i64 0] 24)) := by
  have g1 := World.grownBy_alloc w (.cells #[.pointer (some ⟨p, 0, none⟩)] 23) (some mb)
  have a0 := Boxed.new w 23 (.pointer (some ⟨p, 0, none⟩))
  have a1 := blk_new (w.alloc (.cells #[.pointer (some ⟨p, 0, none⟩)] 23)) (.cells #[.int .i64 X, .int .i64 Y, .int .i64 Rw, .int .i64 Rh] 32)
  have a2 := Boxed.new ((w.alloc (.cells #[.pointer (some ⟨p, 0, none⟩)] 23)).alloc (.cells #[.int .i64 X, .int .i64 Y, .int .i64 Rw, .int .i64 Rh] 32)) 3 (.int .i64 ow)
  have a3 := Boxed.new (((w.alloc (.cells #[.pointer (some ⟨p, 0, none⟩)] 23)).alloc (.cells #[.int .i64 X, .int .i64 Y, .int .i64 Rw, .int .i64 Rh] 32)).alloc (.cells #[.int .i64 ow] 3)) 24 (.int .i64 0)
  simp only [World.size_alloc] at a1 a2 a3
  refine ⟨?_, ((a0.alloc _).alloc _).alloc _, blk_alloc (blk_alloc a1 _) _, a2.alloc _, a3, ?_⟩
  · exact (((h.kept (World.grownBy_alloc w _ none) (by simp) (by simp)).kept (World.grownBy_alloc _ _ none) (by simp) (by simp)).kept (World.grownBy_alloc _ _ none) (by simp) (by simp)).kept (World.grownBy_alloc _ _ none) (by simp) (by simp)
  · exact (((World.grownBy_alloc w _ (some mb)).trans (World.grownBy_alloc _ _ _)).trans (World.grownBy_alloc _ _ _)).trans (World.grownBy_alloc _ _ _)
theorem TS.size (h : TS w p mb W H X Y Rw Rh ow es e V) : w.heap.size + 3 < V.heap.size := h.b3.lt
theorem TS.mlt (h0 : Sh w p mb W H es') : mb < w.heap.size := h0.own.lt
theorem TS.kept {row : Option Nat} (h : TS w p mb W H X Y Rw Rh ow es e V) (hm : mb < w.heap.size) (hp : p < w.heap.size) (hg : V.grownBy V' row) (hr : ∀ r, row = some r → w.heap.size + 4 ≤ r) : TS w p mb W H X Y Rw Rh ow es e V' :=
  ⟨h.sh.kept hg (fun e => by have := hr _ e.symm; omega) (fun e => by have := hr _ e.symm; omega), h.b0.kept hg (fun e => by have := hr _ e.symm; omega), blk_grown h.b1 hg (fun e => by have := hr _ e.symm; omega), h.b2.kept hg (fun e => by have := hr _ e.symm; omega), h.b3.kept hg (fun e => by have := hr _ e.symm; omega),
    h.gr.andThen hg (fun j hj => .inl (by have := hr j hj; omega))⟩
theorem grD (V : World) (q : Nat) : V.grownBy (V.drewN q) none := by
  have hb := pw_below_drewN (Below.refl V.heap.size V) q
  refine ⟨by simp [World.drewN], by simp [World.drewN], by simp [World.drewN], hb.size, fun i hi _ => hb.block i hi⟩
theorem TS.put (h : TS w p mb W H X Y Rw Rh ow es e V) (hm : mb < w.heap.size) (hp : p < w.heap.size) (hg : V.grownBy V' (some mb)) (ho : OwnE V' mb es') : TS w p mb W H X Y Rw Rh ow es' e V' :=
  ⟨⟨blk_grown h.sh.blk hg (fun e => by cases e; exact h.sh.ne rfl), ho⟩, h.b0.kept hg (by first | (simp; done) | (simp; omega)), blk_grown h.b1 hg (by first | (simp; done) | (simp; omega)), h.b2.kept hg (by first | (simp; done) | (simp; omega)), h.b3.kept hg (by first | (simp; done) | (simp; omega)), h.gr.trans hg⟩
theorem TS.setE (h : TS w p mb W H X Y Rw Rh ow es e V) (hm : mb < w.heap.size) (hp : p < w.heap.size) (e' : Int) : TS w p mb W H X Y Rw Rh ow es e' (V.setCell ⟨w.heap.size + 1 + 1 + 1, 0, none⟩ (.int .i64 e')) := by
  have hg : V.grownBy (V.setCell ⟨w.heap.size + 1 + 1 + 1, 0, none⟩ (.int .i64 e')) (some (w.heap.size + 1 + 1 + 1)) := grownBy_setCell' V _ _
  exact ⟨h.sh.kept hg (by first | (simp; done) | (simp; omega)) (by first | (simp; done) | (simp; omega)), h.b0.kept hg (by first | (simp; done) | (simp; omega)), blk_grown h.b1 hg (by first | (simp; done) | (simp; omega)), h.b2.kept hg (by simp), h.b3.set _, h.gr.andThen hg (fun j hj => .inl (by cases hj; omega))⟩
end
set_option maxHeartbeats 4000000 in
set_option maxRecDepth 100000 in
theorem Take_no1 (p mb : Nat) (W H : Int) (es : List Ent) (X Y Rw Rh ow : Int) (w : World) (h : Sh w p mb W H es) (hW : 0 ≤ W ∧ W ≤ 1000) (hH : 0 ≤ H ∧ H ≤ 1000) (l1 : liesB X Rw W = false) :
    Calls Try.prog 20 #[.pointer (some ⟨p, 0, none⟩), .agg #[.int .i64 X, .int .i64 Y, .int .i64 Rw, .int .i64 Rh], .int .i64 ow] w fun e w' => e = .returned (.int .i64 201) ∧ Sh w' p mb W H es ∧ w.grownBy w' (some mb) := by
  have hu32 := Try.underlying32
  have hu52 := Try.underlying52
  have ht := TS.start h X Y Rw Rh ow
  have HM := Aside0.mk (show mb < w.heap.size ∧ p < w.heap.size from ⟨h.own.lt, h.lt⟩)
  have L1 := Aside0.mk (lies_q X Rw W hW)
  have L2 := Aside0.mk (lies_q Y Rh H hH)
  rw [l1] at L1
  clear l1
  obtain ⟨W0, hW0⟩ : ∃ W0, ((((w.alloc (.cells #[.pointer (some ⟨p, 0, none⟩)] 23)).alloc (.cells #[.int .i64 X, .int .i64 Y, .int .i64 Rw, .int .i64 Rh] 32)).alloc (.cells #[.int .i64 ow] 3)).alloc (.cells #[.int .i64 0] 24)) = W0 := ⟨_, rfl⟩
  rw [hW0] at ht
  have HT := Aside0.mk ht
  have HW0 := Aside0.mk hW0
  clear ht hW0 h hW hH
  go_enter Try.func20, Try.ntmps20
  go_upto_region 3 with (fail)
  rw [HW0.out]
  have q0 := HT.out.b0.cell
  have q1 := cI HT.out.b1 0 (v := .int .i64 X) rfl
  have q2 := cI HT.out.b1 1 (v := .int .i64 Y) rfl
  have q3 := cI HT.out.b1 2 (v := .int .i64 Rw) rfl
  have q4 := cI HT.out.b1 3 (v := .int .i64 Rh) rfl
  have q5 := HT.out.b2.cell
  have q6 := HT.out.sh.c0
  have q7 := HT.out.sh.c1
  have q8 := HT.out.b3.cell
  have q9 := HT.out.b3.frozen
  go_wp2
  go_quiet (first | (go_at_call 29; with_reducible exact Calls.quiet_of (L1.out _)) | (go_at_call 29; with_reducible exact Calls.quiet_of (L2.out _)))
  go_wp2
  have HF := ((HT.out.kept HM.out.1 HM.out.2 (grD W0 nq) (fun r e => by cases e)).setE HM.out.1 HM.out.2 201)
  refine bodyPost_ret (v := .int .i64 201) (results_c1 rfl _ _ (w.heap.size + 1 + 1 + 1) _ rfl ?_) rfl ⟨rfl, ?_, ?_⟩
  · exact HF.b3.cell
  · exact HF.sh
  · exact HF.gr
set_option maxHeartbeats 4000000 in
set_option maxRecDepth 100000 in
theorem Take_no2 (p mb : Nat) (W H : Int) (es : List Ent) (X Y Rw Rh ow : Int) (w : World) (h : Sh w p mb W H es) (hW : 0 ≤ W ∧ W ≤ 1000) (hH : 0 ≤ H ∧ H ≤ 1000) (l1 : liesB X Rw W = true) (l2 : liesB Y Rh H = false) :
    Calls Try.prog 20 #[.pointer (some ⟨p, 0, none⟩), .agg #[.int .i64 X, .int .i64 Y, .int .i64 Rw, .int .i64 Rh], .int .i64 ow] w fun e w' => e = .returned (.int .i64 201) ∧ Sh w' p mb W H es ∧ w.grownBy w' (some mb) := by
  have hu32 := Try.underlying32
  have hu52 := Try.underlying52
  have ht := TS.start h X Y Rw Rh ow
  have HM := Aside0.mk (show mb < w.heap.size ∧ p < w.heap.size from ⟨h.own.lt, h.lt⟩)
  have L1 := Aside0.mk (lies_q X Rw W hW)
  have L2 := Aside0.mk (lies_q Y Rh H hH)
  rw [l1] at L1
  rw [l2] at L2
  clear l1 l2
  obtain ⟨W0, hW0⟩ : ∃ W0, ((((w.alloc (.cells #[.pointer (some ⟨p, 0, none⟩)] 23)).alloc (.cells #[.int .i64 X, .int .i64 Y, .int .i64 Rw, .int .i64 Rh] 32)).alloc (.cells #[.int .i64 ow] 3)).alloc (.cells #[.int .i64 0] 24)) = W0 := ⟨_, rfl⟩
  rw [hW0] at ht
  have HT := Aside0.mk ht
  have HW0 := Aside0.mk hW0
  clear ht hW0 h hW hH
  go_enter Try.func20, Try.ntmps20
  go_upto_region 3 with (fail)
  rw [HW0.out]
  have q0 := HT.out.b0.cell
  have q1 := cI HT.out.b1 0 (v := .int .i64 X) rfl
  have q2 := cI HT.out.b1 1 (v := .int .i64 Y) rfl
  have q3 := cI HT.out.b1 2 (v := .int .i64 Rw) rfl
  have q4 := cI HT.out.b1 3 (v := .int .i64 Rh) rfl
  have q5 := HT.out.b2.cell
  have q6 := HT.out.sh.c0
  have q7 := HT.out.sh.c1
  have q8 := HT.out.b3.cell
  have q9 := HT.out.b3.frozen
  go_wp2
  go_quiet (first | (go_at_call 29; with_reducible exact Calls.quiet_of (L1.out _)) | (go_at_call 29; with_reducible exact Calls.quiet_of (L2.out _)))
  go_wp2
  have HF := ((HT.out.kept HM.out.1 HM.out.2 (grD W0 nq) (fun r e => by cases e)).setE HM.out.1 HM.out.2 201)
  refine bodyPost_ret (v := .int .i64 201) (results_c1 rfl _ _ (w.heap.size + 1 + 1 + 1) _ rfl ?_) rfl ⟨rfl, ?_, ?_⟩
  · exact HF.b3.cell
  · exact HF.sh
  · exact HF.gr
set_option maxHeartbeats 4000000 in
set_option maxRecDepth 100000 in
theorem Take_no3 (p mb : Nat) (W H : Int) (es : List Ent) (X Y Rw Rh ow : Int) (w : World) (h : Sh w p mb W H es) (hW : 0 ≤ W ∧ W ≤ 1000) (hH : 0 ≤ H ∧ H ≤ 1000) (l1 : liesB X Rw W = true) (l2 : liesB Y Rh H = true) (ho : ow < 1) :
    Calls Try.prog 20 #[.pointer (some ⟨p, 0, none⟩), .agg #[.int .i64 X, .int .i64 Y, .int .i64 Rw, .int .i64 Rh], .int .i64 ow] w fun e w' => e = .returned (.int .i64 201) ∧ Sh w' p mb W H es ∧ w.grownBy w' (some mb) := by
  have hu32 := Try.underlying32
  have hu52 := Try.underlying52
  have ht := TS.start h X Y Rw Rh ow
  have HM := Aside0.mk (show mb < w.heap.size ∧ p < w.heap.size from ⟨h.own.lt, h.lt⟩)
  have L1 := Aside0.mk (lies_q X Rw W hW)
  have L2 := Aside0.mk (lies_q Y Rh H hH)
  rw [l1] at L1
  rw [l2] at L2
  have ho1 : decide (ow < 1) = true := decide_eq_true ho
  clear l1 l2 ho
  obtain ⟨W0, hW0⟩ : ∃ W0, ((((w.alloc (.cells #[.pointer (some ⟨p, 0, none⟩)] 23)).alloc (.cells #[.int .i64 X, .int .i64 Y, .int .i64 Rw, .int .i64 Rh] 32)).alloc (.cells #[.int .i64 ow] 3)).alloc (.cells #[.int .i64 0] 24)) = W0 := ⟨_, rfl⟩
  rw [hW0] at ht
  have HT := Aside0.mk ht
  have HW0 := Aside0.mk hW0
  clear ht hW0 h hW hH
  go_enter Try.func20, Try.ntmps20
  go_upto_region 3 with (fail)
  rw [HW0.out]
  have q0 := HT.out.b0.cell
  have q1 := cI HT.out.b1 0 (v := .int .i64 X) rfl
  have q2 := cI HT.out.b1 1 (v := .int .i64 Y) rfl
  have q3 := cI HT.out.b1 2 (v := .int .i64 Rw) rfl
  have q4 := cI HT.out.b1 3 (v := .int .i64 Rh) rfl
  have q5 := HT.out.b2.cell
  have q6 := HT.out.sh.c0
  have q7 := HT.out.sh.c1
  have q8 := HT.out.b3.cell
  have q9 := HT.out.b3.frozen
  go_wp2
  go_quiet (first | (go_at_call 29; with_reducible exact Calls.quiet_of (L1.out _)) | (go_at_call 29; with_reducible exact Calls.quiet_of (L2.out _)))
  go_wp2
  have HF := ((HT.out.kept HM.out.1 HM.out.2 (grD W0 nq) (fun r e => by cases e)).setE HM.out.1 HM.out.2 201)
  refine bodyPost_ret (v := .int .i64 201) (results_c1 rfl _ _ (w.heap.size + 1 + 1 + 1) _ rfl ?_) rfl ⟨rfl, ?_, ?_⟩
  · exact HF.b3.cell
  · exact HF.sh
  · exact HF.gr
set_option maxHeartbeats 4000000 in
set_option maxRecDepth 100000 in
theorem Take_no4 (p mb : Nat) (W H : Int) (es : List Ent) (X Y Rw Rh ow : Int) (w : World) (h : Sh w p mb W H es) (hW : 0 ≤ W ∧ W ≤ 1000) (hH : 0 ≤ H ∧ H ≤ 1000) (l1 : liesB X Rw W = true) (l2 : liesB Y Rh H = true) (ho : 1 ≤ ow) (ho2 : 1048576 < ow) :
    Calls Try.prog 20 #[.pointer (some ⟨p, 0, none⟩), .agg #[.int .i64 X, .int .i64 Y, .int .i64 Rw, .int .i64 Rh], .int .i64 ow] w fun e w' => e = .returned (.int .i64 201) ∧ Sh w' p mb W H es ∧ w.grownBy w' (some mb) := by
  have hu32 := Try.underlying32
  have hu52 := Try.underlying52
  have ht := TS.start h X Y Rw Rh ow
  have HM := Aside0.mk (show mb < w.heap.size ∧ p < w.heap.size from ⟨h.own.lt, h.lt⟩)
  have L1 := Aside0.mk (lies_q X Rw W hW)
  have L2 := Aside0.mk (lies_q Y Rh H hH)
  rw [l1] at L1
  rw [l2] at L2
  have ho1 : decide (ow < 1) = false := decide_eq_false (by omega)
  have ho3 : decide (1048576 < ow) = true := decide_eq_true ho2
  clear l1 l2 ho ho2
  obtain ⟨W0, hW0⟩ : ∃ W0, ((((w.alloc (.cells #[.pointer (some ⟨p, 0, none⟩)] 23)).alloc (.cells #[.int .i64 X, .int .i64 Y, .int .i64 Rw, .int .i64 Rh] 32)).alloc (.cells #[.int .i64 ow] 3)).alloc (.cells #[.int .i64 0] 24)) = W0 := ⟨_, rfl⟩
  rw [hW0] at ht
  have HT := Aside0.mk ht
  have HW0 := Aside0.mk hW0
  clear ht hW0 h hW hH
  go_enter Try.func20, Try.ntmps20
  go_upto_region 3 with (fail)
  rw [HW0.out]
  have q0 := HT.out.b0.cell
  have q1 := cI HT.out.b1 0 (v := .int .i64 X) rfl
  have q2 := cI HT.out.b1 1 (v := .int .i64 Y) rfl
  have q3 := cI HT.out.b1 2 (v := .int .i64 Rw) rfl
  have q4 := cI HT.out.b1 3 (v := .int .i64 Rh) rfl
  have q5 := HT.out.b2.cell
  have q6 := HT.out.sh.c0
  have q7 := HT.out.sh.c1
  have q8 := HT.out.b3.cell
  have q9 := HT.out.b3.frozen
  go_wp2
  go_quiet (first | (go_at_call 29; with_reducible exact Calls.quiet_of (L1.out _)) | (go_at_call 29; with_reducible exact Calls.quiet_of (L2.out _)))
  go_wp2
  have HF := ((HT.out.kept HM.out.1 HM.out.2 (grD W0 nq) (fun r e => by cases e)).setE HM.out.1 HM.out.2 201)
  refine bodyPost_ret (v := .int .i64 201) (results_c1 rfl _ _ (w.heap.size + 1 + 1 + 1) _ rfl ?_) rfl ⟨rfl, ?_, ?_⟩
  · exact HF.b3.cell
  · exact HF.sh
  · exact HF.gr
theorem Take_no.calls (p mb : Nat) (W H : Int) (es : List Ent) (X Y Rw Rh ow : Int) (w : World) (h : Sh w p mb W H es) (hW : 0 ≤ W ∧ W ≤ 1000) (hH : 0 ≤ H ∧ H ≤ 1000)
    (hno : ¬ (liesB X Rw W = true ∧ liesB Y Rh H = true ∧ 1 ≤ ow ∧ ow ≤ 1048576)) :
    Calls Try.prog 20 #[.pointer (some ⟨p, 0, none⟩), .agg #[.int .i64 X, .int .i64 Y, .int .i64 Rw, .int .i64 Rh], .int .i64 ow] w fun e w' => e = .returned (.int .i64 201) ∧ Sh w' p mb W H es ∧ w.grownBy w' (some mb) := by
  cases l1 : liesB X Rw W with
  | false => exact Take_no1 p mb W H es X Y Rw Rh ow w h hW hH l1
  | true =>
    cases l2 : liesB Y Rh H with
    | false => exact Take_no2 p mb W H es X Y Rw Rh ow w h hW hH l1 l2
    | true =>
      by_cases ho : 1 ≤ ow
      · by_cases ho2 : ow ≤ 1048576
        · exact absurd ⟨l1, l2, ho, ho2⟩ hno
        · exact Take_no4 p mb W H es X Y Rw Rh ow w h hW hH l1 l2 ho (by omega)
      · exact Take_no3 p mb W H es X Y Rw Rh ow w h hW hH l1 l2 (by omega)
-- REST
end Go.Proofs.Ytpljnkfbcgdafaa.P

namespace Go.Proofs.Ytpljnkfbcgdafaa.P
open Go.RowKit Go.Shelf Go.Proofs.YtpljnkfbcgdafaaW.PrintWords Go.Proofs.YtpljnkfbcgdafaaW.PrintLast Go.Proofs.YtpljnkfbcgdafaaW.PrintMore
set_option linter.unusedVariables false
set_option linter.unusedSimpArgs false
theorem inK_small {x : Int} (h : -1000000000000 ≤ x ∧ x ≤ 1000000000000) : inK x := by
  unfold inK Lit.wf
  simp [IntKind.min, IntKind.max, IntKind.bits, IntKind.signed]
  omega
theorem OwnE.drew {w : World} {b : Nat} {es : List Ent} (h : OwnE w b es) : OwnE w.drew b es := h.below (below_drew1 (Below.refl _ _))
theorem grD1 (V : World) (row : Option Nat) : V.grownBy V.drew row := ⟨rfl, rfl, rfl, Nat.le_refl _, fun _ _ _ => rfl⟩
theorem len_takeE (ow : Int) : ∀ (pre : List CellK) (es : List Ent), (pre.foldl (fun es (c : CellK) => putE es c.1 ow) es).length ≤ es.length + pre.length
  | [], es => Nat.le_refl _
  | c :: r, es => by
    have h1 := len_takeE ow r (putE es c.1 ow)
    have h2 : (putE es c.1 ow).length ≤ es.length + 1 := by unfold putE; rw [List.length_append]; have := List.length_filter_le (fun e : Ent => !(e.1 == c.1)) es; simp only [List.length_singleton]; omega
    simp only [List.foldl_cons, List.length_cons]
    omega
theorem upC_mono {X Y : Int} {H k m : Nat} (h : k ≤ m) {c : CellK} (hc : c ∈ upC X Y H k) : c ∈ upC X Y H m := by
  simp only [upC, List.mem_map, List.mem_range] at hc ⊢
  obtain ⟨i, hi, e⟩ := hc
  exact ⟨i, by omega, e⟩
theorem wide_fn (f : FuncId) : Fence.wide.fn f = True := rfl
attribute [local go_sem] Oper.semAt_some wide_fn
attribute [local simp] wide_fn
set_option maxHeartbeats 8000000 in
set_option maxRecDepth 100000 in
theorem Take_ok.calls (p mb : Nat) (W H : Int) (es : List Ent) (X Y : Int) (rw rh : Nat) (ow : Int) (w : World) (h : Sh w p mb W H es) (hW : 0 ≤ W ∧ W ≤ 100) (hH : 0 ≤ H ∧ H ≤ 100)
    (l1 : liesB X rw W = true) (l2 : liesB Y rh H = true) (ho : 1 ≤ ow ∧ ow ≤ 1048576) (hes : es.length ≤ 1000000) :
    Calls Try.prog 20 #[.pointer (some ⟨p, 0, none⟩), .agg #[.int .i64 X, .int .i64 Y, .int .i64 (rw : Int), .int .i64 (rh : Int)], .int .i64 ow] w fun e w' =>
      ((∀ c ∈ upC X Y rh (rw * rh), valE es c.1.1 c.1.2 = 0) ∧ e = .returned (.int .i64 0) ∧ Sh w' p mb W H ((upC X Y rh (rw * rh)).foldl (fun es c => putE es c.1 ow) es) ∧ w.grownBy w' (some mb)) ∨
      ((∃ c ∈ upC X Y rh (rw * rh), valE es c.1.1 c.1.2 ≠ 0) ∧ e = .returned (.int .i64 201) ∧ Sh w' p mb W H es ∧ w.grownBy w' (some mb)) := by
  have hu32 := Try.underlying32
  have hu52 := Try.underlying52
  have ht := TS.start h X Y rw rh ow
  have HM := Aside0.mk (show mb < w.heap.size ∧ p < w.heap.size from ⟨h.own.lt, h.lt⟩)
  have L1 := Aside0.mk (lies_q X rw W (by omega))
  have L2 := Aside0.mk (lies_q Y rh H (by omega))
  have hxy : 0 ≤ X ∧ X ≤ 100 ∧ 0 ≤ Y ∧ Y ≤ 100 ∧ rw ≤ 100 ∧ rh ≤ 100 := by
    simp only [liesB, Bool.and_eq_true, decide_eq_true_eq] at l1 l2
    omega
  rw [l1] at L1
  rw [l2] at L2
  have HXY := Aside0.mk hxy
  have HO := Aside0.mk ho
  have HES := Aside0.mk hes
  have ho1 : decide (ow < 1) = false := decide_eq_false (by omega)
  have ho3 : decide (1048576 < ow) = false := decide_eq_false (by omega)
  obtain ⟨W0, hW0⟩ : ∃ W0, ((((w.alloc (.cells #[.pointer (some ⟨p, 0, none⟩)] 23)).alloc (.cells #[.int .i64 X, .int .i64 Y, .int .i64 rw, .int .i64 rh] 32)).alloc (.cells #[.int .i64 ow] 3)).alloc (.cells #[.int .i64 0] 24)) = W0 := ⟨_, rfl⟩
  rw [hW0] at ht
  have HT := Aside0.mk ht
  have HW0 := Aside0.mk hW0
  clear ht hW0 h hW hH hxy ho hes l1 l2
  refine (callsIn_wide (n := 6)).1 ?_
  refine callsIn_of_wp_marks Try.func20 rfl trivial ?_ rfl
  simp only [Try.ntmps20, List.size_toArray, List.length_cons, List.length_nil, Nat.reduceAdd, Nat.reduceSub, Array.replicate_succ, Array.replicate_zero, List.push_toArray, List.append_toArray, List.nil_append, List.cons_append]
  gi_upto_region 3 with (fail)
  rw [HW0.out]
  have q0 := HT.out.b0.cell
  have q1 := cI HT.out.b1 0 (v := .int .i64 X) rfl
  have q2 := cI HT.out.b1 1 (v := .int .i64 Y) rfl
  have q3 := cI HT.out.b1 2 (v := .int .i64 rw) rfl
  have q4 := cI HT.out.b1 3 (v := .int .i64 rh) rfl
  have q5 := HT.out.b2.cell
  have q6 := HT.out.sh.c0
  have q7 := HT.out.sh.c1
  have q8 := HT.out.b3.cell
  have q9 := HT.out.b3.frozen
  gi_wp2
  gi_quiet (first | (gi_at_call 29; with_reducible exact CallsIn.quiet_of (callsIn_wide.2 (L1.out _))) | (gi_at_call 29; with_reducible exact CallsIn.quiet_of (callsIn_wide.2 (L2.out _))))
  gi_wp2_with (gi_at_call 30; refine (cells_in _ X Y rw rh _).mono ?_; rintro e w2 ⟨rfl, rfl⟩)
  have HTq := HT.out.kept HM.out.1 HM.out.2 (grD W0 nq) (fun r e => by cases e)
  have hb0 := blk_new (W0.drewN nq) (.cells #[.int .i64 X, .int .i64 Y, .int .i64 (rw : Int), .int .i64 (rh : Int)] 32)
  obtain ⟨Bn, hBn⟩ : ∃ Bn, W0.heap.size = Bn := ⟨_, rfl⟩
  have hBl : w.heap.size + 3 < Bn := by rw [← hBn]; exact HT.out.size
  obtain ⟨V0, hV0⟩ : ∃ V0, (W0.drewN nq).alloc (.cells #[.int .i64 X, .int .i64 Y, .int .i64 (rw : Int), .int .i64 (rh : Int)] 32) = V0 := ⟨_, rfl⟩
  have hsz : V0.heap.size = Bn + 1 := by rw [← hV0, ← hBn, World.size_alloc]; rfl
  have HT0 : TS w p mb W H X Y (rw : Int) (rh : Int) ow es 0 V0 := by rw [← hV0]; exact HTq.kept HM.out.1 HM.out.2 (World.grownBy_alloc _ _ none) (fun r e => by cases e)
  rw [hV0, show (W0.drewN nq).heap.size = W0.heap.size from rfl, hBn] at hb0
  rw [hV0]
  first | rw [hBn] | (rw [show (W0.drewN nq).heap.size = W0.heap.size from rfl, hBn]) | skip
  clear hBn hV0 q0 q1 q2 q3 q4 q5 q6 q7 q8 q9 HTq
  have hm := HM.out
  have hxy := HXY.out
  refine wpIn_rangeFunc_ownH rfl (by omega) (gf := 37) (lb := #[.pointer (some ⟨Bn, 0, none⟩)]) rfl trivial (enters_of Try.func37 (by kernel_rfl) rfl)
    (cells_stops _ (by omega) Bn X Y rw rh (by omega) (by omega) V0 hb0) KB.t (KB.b (by omega)) (Below.refl _ _) (fun _ => rfl)
    (fun pre V => TS w p mb W H X Y (rw : Int) (rh : Int) ow es 0 V ∧ V.heap[Bn]? = some (.cells #[.int .i64 X, .int .i64 Y, .int .i64 (rw : Int), .int .i64 (rh : Int)] 32 (0, 0)) ∧ ∀ c ∈ pre, valE es c.1.1 c.1.2 = 0)
    (fun c pre V => c = .ret ∧ TS w p mb W H X Y (rw : Int) (rh : Int) ow es 201 V ∧ ∃ c ∈ pre, valE es c.1.1 c.1.2 ≠ 0)
    (fun s V V' row hs hg hr => ⟨hs.1.kept hm.1 hm.2 hg (fun r e => by have := (hr r e).1; omega), blk_grown hs.2.1 hg (fun e => by have := (hr _ e.symm).1; omega), hs.2.2⟩)
    (fun c s V V' row hs hg hr => ⟨hs.1, hs.2.1.kept hm.1 hm.2 hg (fun r e => by have := (hr r e).1; omega), hs.2.2⟩)
    ⟨HT0, hb0, by simp⟩
    (fun x a' V => ∃ Bx, V0.heap.size ≤ Bx ∧ V.heap[Bx]? = some (.cells #[.int .i64 x.1.1, .int .i64 x.1.2] 57 (0, 0)) ∧ a' = { tmps := #[.pointer (some ⟨p, 0, none⟩), .agg #[.int .i64 X, .int .i64 Y, .int .i64 (rw : Int), .int .i64 (rh : Int)], .int .i64 ow, .pointer (some ⟨w.heap.size, 0, none⟩), .pointer (some ⟨w.heap.size + 1, 0, none⟩), .pointer (some ⟨w.heap.size + 1 + 1, 0, none⟩), .pointer (some ⟨w.heap.size + 1 + 1 + 1, 0, none⟩), .pointer (some ⟨Bx, 0, none⟩), undef, .bool false, .pointer (some ⟨p, 0, none⟩), .bool false, .bool false, .pointer (some ⟨w.heap.size + 1, 0, none⟩), .int .i64 X, .pointer (some ⟨w.heap.size + 1, 2, none⟩), .int .i64 (rw : Int), .pointer (some ⟨p, 0, none⟩), .pointer (some ⟨p, 0, none⟩), .pointer (some ⟨p, 0, none⟩), .int .i64 W, .bool true, .bool false, .bool false, .pointer (some ⟨w.heap.size + 1, 1, none⟩), .int .i64 Y, .pointer (some ⟨w.heap.size + 1, 3, none⟩), .int .i64 (rh : Int), .pointer (some ⟨p, 0, none⟩), .pointer (some ⟨p, 0, none⟩), .pointer (some ⟨p, 1, none⟩), .int .i64 H, .bool true, .bool false, .bool false, .bool false, .int .i64 ow, .bool false, .bool false, .bool false, .int .i64 ow, .bool false, .bool false, .agg #[.int .i64 X, .int .i64 Y, .int .i64 (rw : Int), .int .i64 (rh : Int)], .func (.func 37) #[] #[.pointer (some ⟨Bn, 0, none⟩)], .agg #[.int .i64 x.1.1, .int .i64 x.1.2], undef, undef, undef, undef, undef, undef, undef, undef, undef, undef, undef, undef, undef, undef, undef, undef], defers := [] })
    (fun x a' _ V V' row hs hg hr => by obtain ⟨Bx, h1, h2, h3⟩ := hs; exact ⟨Bx, h1, blk_grown h2 hg (fun e => by obtain ⟨_, ob, hob, hc⟩ := hr _ e.symm; rw [h2] at hob; cases hob; cases hc), h3⟩)
    ?assign ?body ?done ?stop
  case assign =>
    rintro l pre x V K ⟨hT, hB, hz⟩ hK
    have hu57 := Try.underlying57
    simp only [cv]
    gi_wp2
    exact hK _ _ ((KeepsOthers.alloc _ _).from _) (Below.heap_alloc _ _ _ (blk_lt hB)) ⟨hT.kept hm.1 hm.2 (World.grownBy_alloc _ _ none) (fun r e => by cases e), blk_alloc hB _, hz⟩ ⟨V.heap.size, by have := blk_lt hB; omega, blk_new V _, rfl⟩
  case body =>
    rintro l pre x a' V hl ⟨r, hr⟩ ⟨hT, hB, hz⟩ ⟨Bx, hBx, bX, rfl⟩ hlt
    have hu57 := Try.underlying57
    have q0 := hT.b0.cell
    have q1 := hT.sh.c2
    have q2 := cI bX 0 (v := .int .i64 x.1.1) rfl
    have q3 := cI bX 1 (v := .int .i64 x.1.2) rfl
    have q4 := hT.b3.cell
    have q5 := hT.b3.frozen
    have hx1 : inK x.1.1 := inK_small (by have := x.2; omega)
    have hx2 : inK x.1.2 := inK_small (by have := x.2; omega)
    have hl0 := (OwnE.drew hT.sh.own).look x.1.1 x.1.2 hx1 hx2
    simp only [cv] at hl0
    have hmx : Try.prog.follows .mixedOrders = true := by kernel_rfl
    by_cases hv : valE es x.1.1 x.1.2 = 0
    · have hvb : (valE es x.1.1 x.1.2 != 0) = false := by rw [hv]; rfl
      gi_wp2
      gi_region_with_o (fail)
      all_goals gi_wp2
      all_goals (try go_bits)
      all_goals exact ⟨(KeepsOthers.drew V).from _, rfl, hT.kept hm.1 hm.2 (grD1 V none) (fun r e => by cases e), hB, fun c hc => by
        rcases List.mem_append.1 hc with hc | hc
        · exact hz c hc
        · rw [List.mem_singleton.1 hc]; exact hv⟩
    · have hvb : (valE es x.1.1 x.1.2 != 0) = true := bne_iff_ne.2 hv
      gi_wp2
      gi_region_with_o (fail)
      all_goals gi_wp2
      all_goals (try go_bits)
      all_goals exact ⟨by first | exact ((KeepsOthers.setCell _ _ _).trans (KeepsOthers.drew _)).from _ | exact ((KeepsOthers.drew _).trans (KeepsOthers.setCell _ _ _)).from _, rfl, by first | exact (hT.setE hm.1 hm.2 201).kept hm.1 hm.2 (grD1 _ none) (fun r e => by cases e) | exact (hT.kept hm.1 hm.2 (grD1 V none) (fun r e => by cases e)).setE hm.1 hm.2 201, x, by simp, hv⟩
  case done =>
    rintro D ys V hD rfl ⟨hT, hB, hz⟩ hK
    have q1 := cI hT.b1 0 (v := .int .i64 X) rfl
    have q2 := cI hT.b1 1 (v := .int .i64 Y) rfl
    have q3 := cI hT.b1 2 (v := .int .i64 rw) rfl
    have q4 := cI hT.b1 3 (v := .int .i64 rh) rfl
    gi_wp2_with (gi_at_call 30; refine (cells_in _ X Y rw rh _).mono ?_; rintro e w2 ⟨rfl, rfl⟩)
    have hb1 := blk_new V (.cells #[.int .i64 X, .int .i64 Y, .int .i64 (rw : Int), .int .i64 (rh : Int)] 32)
    obtain ⟨Bm, hBm⟩ : ∃ Bm, V.heap.size = Bm := ⟨_, rfl⟩
    obtain ⟨V1, hV1⟩ : ∃ V1, V.alloc (.cells #[.int .i64 X, .int .i64 Y, .int .i64 (rw : Int), .int .i64 (rh : Int)] 32) = V1 := ⟨_, rfl⟩
    have hsz1 : V1.heap.size = Bm + 1 := by rw [← hV1, ← hBm, World.size_alloc]
    have hDl : D < Bm := by rw [← hBm]; exact blk_lt hK
    have hmB : w.heap.size + 3 < Bm := by rw [← hBm]; exact hT.size
    have HT1 : TS w p mb W H X Y (rw : Int) (rh : Int) ow es 0 V1 := by rw [← hV1]; exact hT.kept hm.1 hm.2 (World.grownBy_alloc _ _ none) (fun r e => by cases e)
    have HK1 : V1.heap[D]? = some (.deferred (some [])) := by rw [← hV1]; exact (Below.heap_alloc _ _ _ (by omega)).trans hK
    rw [hV1, hBm] at hb1
    rw [hV1, hBm]
    clear hBm hV1 q1 q2 q3 q4 hT hK hB
    refine wpIn_rangeFunc_ownH rfl (by omega) (gf := 37) (lb := #[.pointer (some ⟨Bm, 0, none⟩)]) rfl trivial (enters_of Try.func37 (by kernel_rfl) rfl)
      (cells_stops _ (by omega) Bm X Y rw rh (by omega) (by omega) V1 hb1) KB.t (KB.b (by omega)) (Below.refl _ _) (fun _ => rfl)
      (fun pre V => TS w p mb W H X Y (rw : Int) (rh : Int) ow (pre.foldl (fun es (c : CellK) => putE es c.1 ow) es) 0 V ∧ V.heap[Bm]? = some (.cells #[.int .i64 X, .int .i64 Y, .int .i64 (rw : Int), .int .i64 (rh : Int)] 32 (0, 0)) ∧ V.heap[D]? = some (.deferred (some [])))
      (fun c pre V => False)
      (fun s V V' row hs hg hr => ⟨hs.1.kept hm.1 hm.2 hg (fun r e => by have := (hr r e).1; omega), blk_grown hs.2.1 hg (fun e => by have := (hr _ e.symm).1; omega), blk_grown hs.2.2 hg (fun e => by have := (hr _ e.symm).1; omega)⟩)
      (fun c s V V' row hs hg hr => hs)
      ⟨HT1, hb1, HK1⟩
      (fun x a' V => ∃ Bx, V1.heap.size ≤ Bx ∧ V.heap[Bx]? = some (.cells #[.int .i64 x.1.1, .int .i64 x.1.2] 57 (0, 0)) ∧ a' = { tmps := #[.pointer (some ⟨p, 0, none⟩), .agg #[.int .i64 X, .int .i64 Y, .int .i64 (rw : Int), .int .i64 (rh : Int)], .int .i64 ow, .pointer (some ⟨w.heap.size, 0, none⟩), .pointer (some ⟨w.heap.size + 1, 0, none⟩), .pointer (some ⟨w.heap.size + 1 + 1, 0, none⟩), .pointer (some ⟨w.heap.size + 1 + 1 + 1, 0, none⟩), undef, .pointer (some ⟨Bx, 0, none⟩), .bool false, .pointer (some ⟨p, 0, none⟩), .bool false, .bool false, .pointer (some ⟨w.heap.size + 1, 0, none⟩), .int .i64 X, .pointer (some ⟨w.heap.size + 1, 2, none⟩), .int .i64 (rw : Int), .pointer (some ⟨p, 0, none⟩), .pointer (some ⟨p, 0, none⟩), .pointer (some ⟨p, 0, none⟩), .int .i64 W, .bool true, .bool false, .bool false, .pointer (some ⟨w.heap.size + 1, 1, none⟩), .int .i64 Y, .pointer (some ⟨w.heap.size + 1, 3, none⟩), .int .i64 (rh : Int), .pointer (some ⟨p, 0, none⟩), .pointer (some ⟨p, 0, none⟩), .pointer (some ⟨p, 1, none⟩), .int .i64 H, .bool true, .bool false, .bool false, .bool false, .int .i64 ow, .bool false, .bool false, .bool false, .int .i64 ow, .bool false, .bool false, .agg #[.int .i64 X, .int .i64 Y, .int .i64 (rw : Int), .int .i64 (rh : Int)], .func (.func 37) #[] #[.pointer (some ⟨Bn, 0, none⟩)], undef, undef, undef, undef, undef, undef, undef, undef, .agg #[.int .i64 X, .int .i64 Y, .int .i64 (rw : Int), .int .i64 (rh : Int)], .func (.func 37) #[] #[.pointer (some ⟨Bm, 0, none⟩)], .agg #[.int .i64 x.1.1, .int .i64 x.1.2], undef, undef, undef, undef, undef, undef], defers := [] })
      (fun x a' _ V V' row hs hg hr => by obtain ⟨Bx, h1, h2, h3⟩ := hs; exact ⟨Bx, h1, blk_grown h2 hg (fun e => by obtain ⟨_, ob, hob, hc⟩ := hr _ e.symm; rw [h2] at hob; cases hob; cases hc), h3⟩)
      ?assign2 ?body2 ?done2 ?stop2
    case assign2 =>
      rintro l pre x V K ⟨hT, hB, hKD⟩ hK
      have hu57 := Try.underlying57
      simp only [cv]
      gi_wp2
      exact hK _ _ ((KeepsOthers.alloc _ _).from _) (Below.heap_alloc _ _ _ (blk_lt hB)) ⟨hT.kept hm.1 hm.2 (World.grownBy_alloc _ _ none) (fun r e => by cases e), blk_alloc hB _, blk_alloc hKD _⟩ ⟨V.heap.size, by have := blk_lt hB; omega, blk_new V _, rfl⟩
    case body2 =>
      rintro l pre x a' V hl ⟨r, hr⟩ ⟨hT, hB, hKD⟩ ⟨Bx, hBx, bX, rfl⟩ hlt
      have hu57 := Try.underlying57
      have q0 := hT.b0.cell
      have q1 := hT.sh.c2
      have q2 := cI bX 0 (v := .int .i64 x.1.1) rfl
      have q3 := cI bX 1 (v := .int .i64 x.1.2) rfl
      have q4 := hT.b2.cell
      have hx1 : inK x.1.1 := inK_small (by have := x.2; omega)
      have hx2 : inK x.1.2 := inK_small (by have := x.2; omega)
      have hol : inK ow := inK_small (by have := HO.out; omega)
      have hlen : (pre.foldl (fun es (c : CellK) => putE es c.1 ow) es).length < maxLen := by
        have h1 := len_takeE ow pre es
        have h2 : rw * rh ≤ 100 * 100 := Nat.mul_le_mul (by omega) (by omega)
        have := HES.out
        simp only [maxLen]
        omega
      obtain ⟨V2, hrun, ho2, hg2⟩ := (OwnE.drew hT.sh.own).put x.1.1 x.1.2 ow hx1 hx2 hol hlen
      simp only [cv] at hrun
      have hg3 : V.grownBy V2 (some mb) := (grD1 V (some mb)).trans hg2
      have hmx : Try.prog.follows .mixedOrders = true := by kernel_rfl
      gi_wp2
      gi_region_with_o (fail)
      all_goals gi_wp2
      all_goals (try go_bits)
      all_goals exact ⟨KeepsFrom.of_grownBy hg3 (fun j e => by cases e; omega), hg3.block _ (blk_lt hB) (fun e => by cases e; omega), by rw [List.foldl_append]; exact hT.put hm.1 hm.2 hg3 ho2, blk_grown hB hg3 (fun e => by cases e; omega), blk_grown hKD hg3 (fun e => by cases e; omega)⟩
    case done2 =>
      rintro D2 ys V hD2 rfl ⟨hT, hB, hKD⟩ hK
      have q4 := hT.b3.cell
      have q5 := hT.b3.frozen
      have hdd : D ≠ D2 := by omega
      gi_wp2
      have kD2 : (V.setCell ⟨w.heap.size + 1 + 1 + 1, 0, none⟩ (.int .i64 0)).heap[D2]? = some (.deferred (some [])) := ((grownBy_setCell' V _ _).block D2 (blk_lt hK) (fun e => by cases e; omega)).trans hK
      have kD : ((V.setCell ⟨w.heap.size + 1 + 1 + 1, 0, none⟩ (.int .i64 0)).putObj D2 (.deferred none)).heap[D]? = some (.deferred (some [])) := (World.putObj_heap_other (by omega)).trans (((grownBy_setCell' V _ _).block D (blk_lt hKD) (fun e => by cases e; omega)).trans hKD)
      have HF := ((hT.setE hm.1 hm.2 0).kept hm.1 hm.2 (grownBy_putObj' _ D2 (.deferred none)) (fun r e => by cases e; omega)).kept hm.1 hm.2 (grownBy_putObj' _ D (.deferred none)) (fun r e => by cases e; omega)
      refine ⟨by simp, .inl ⟨_, _, rfl, run_takeDeferred kD2, ⟨by simp, .inl ⟨_, _, rfl, run_takeDeferred kD, ?_⟩⟩⟩⟩
      exact ⟨_, results_c1 rfl _ _ (w.heap.size + 1 + 1 + 1) (.int .i64 0) rfl HF.b3.cell, .inl ⟨hz, rfl, HF.sh, HF.gr⟩⟩
    case stop2 =>
      rintro D c pre V hD _ h _
      exact h.elim
  case stop =>
    rintro D c pre V hD hsp ⟨rfl, hT, hex⟩ hK
    gi_wp2
    have HF := hT.kept hm.1 hm.2 (grownBy_putObj' V D (.deferred none)) (fun r e => by cases e; omega)
    refine ⟨by simp, .inl ⟨_, _, rfl, run_takeDeferred hK, ?_⟩⟩
    obtain ⟨k, hk, rfl⟩ := hsp
    obtain ⟨c, hc, hne⟩ := hex
    exact ⟨_, results_c1 rfl _ _ (w.heap.size + 1 + 1 + 1) (.int .i64 201) rfl HF.b3.cell, .inr ⟨⟨c, upC_mono (by omega) hc, hne⟩, rfl, HF.sh, HF.gr⟩⟩
end Go.Proofs.Ytpljnkfbcgdafaa.P
