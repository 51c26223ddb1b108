/- Both sheets behind a script's act. -/
import Derived.Test.YtpljnkfbcgdafaaHRClear
import Derived.Test.YtpljnkfbcgdafaaWAt
import Derived.Test.YtpljnkfbcgdafaaWFootNe
namespace Go.Proofs.Ytpljnkfbcgdafaa.P
open Go.RowKit Go.Shelf Go.Proofs.YtpljnkfbcgdafaaW.PrintWords Go.Proofs.YtpljnkfbcgdafaaW.PrintLast Go.Proofs.YtpljnkfbcgdafaaW.PrintMore
set_option linter.unusedVariables false
set_option linter.unusedSimpArgs false

theorem OwnE.obj {w : World} {b : Nat} {es : List Ent} (h : OwnE w b es) : ∃ x y, w.heap[b]? = some (.map x y) := by
  obtain ⟨D, ⟨es', clock, h1, _⟩, _⟩ := h
  exact ⟨_, _, h1⟩
theorem RSh.far {w w' : World} {g : Nat} {W H : Int} {l : List S59} (h : RSh w g W H l) {mb : Nat} {x : Array MapEntry} {y : Nat} (hm : w.heap[mb]? = some (.map x y)) (hg : w.grownBy w' (some mb)) : RSh w' g W H l := by
  have hlt := h.lt
  obtain ⟨A, c, h1, h2, h3⟩ := h
  have hne : some g ≠ some mb := by
    intro e
    rw [Option.some.inj e, hm] at h1
    cases h1
  refine ⟨A, c, (hg.block g hlt hne).trans h1, ?_, h3⟩
  refine Kd.C_foot_ne (g := mb) (fun hk => by rw [k59_open hk]; exact k59_mk _ _) h2 (fun ad ha hn hb => ?_) w' ⟨hg.size, fun i hi hne' _ => hg.block i hi (by simpa using hne')⟩
  subst ha
  have h5 := Kd.C_not_empty h2 hn (by decide)
  apply h5
  unfold World.cell?
  rw [hb, hm]
theorem Sh.far {w w' : World} {p mb : Nat} {W H : Int} {es : List Ent} (h : Sh w p mb W H es) {g : Nat} {cs : Array Value} {fz : Nat × Nat} (hm : w.heap[g]? = some (.cells cs 55 fz)) (hg : w.grownBy w' (some g)) : Sh w' p mb W H es := by
  refine h.kept hg ?_ ?_
  · intro e
    have := h.blk
    rw [Option.some.inj e, hm] at this
    simp at this
  · intro e
    obtain ⟨x, y, h1⟩ := h.own.obj
    rw [Option.some.inj e, hm] at h1
    cases h1
theorem RSh.obj {w : World} {g : Nat} {W H : Int} {l : List S59} (h : RSh w g W H l) : ∃ cs, w.heap[g]? = some (.cells cs 55 (0, 0)) := by obtain ⟨A, c, h, _⟩ := h; exact ⟨_, h⟩
theorem below_gr {B b : Nat} {w w' : World} (hg : w.grownBy w' (some b)) (h1 : B ≤ b) (h2 : B ≤ w.heap.size) : Below B w w' :=
  ⟨hg.os, hg.tape, hg.output, hg.size, fun i hi => hg.block i (by omega) (by simp; omega)⟩
/-- Not too many entries; none is the last owner's. -/
def Inv (n : Nat) (es : List Ent) : Prop := es.length ≤ 256 * n ∧ ∀ e ∈ es, e.2 ≠ 1048576
theorem Inv.up {n : Nat} {es : List Ent} (h : Inv n es) : Inv (n + 1) es := ⟨by have := h.1; omega, h.2⟩
theorem Inv.big {n : Nat} {es : List Ent} (h : Inv n es) (hn : n ≤ 60) : es.length ≤ 1000000 := by have := h.1; omega
theorem Inv.notE {n : Nat} {es : List Ent} (h : Inv n es) (ow : Int) : Inv (n + 1) (notE ow es) := by
  refine ⟨?_, fun e he => h.2 e (List.mem_filter.1 he).1⟩
  have := List.length_filter_le (fun e : Ent => !(e.2 == ow)) es
  have := h.1
  unfold P.notE; omega
theorem fold_mem (ow : Int) : ∀ (pre : List CellK) (es : List Ent) (e : Ent), e ∈ pre.foldl (fun es (c : CellK) => putE es c.1 ow) es → e ∈ es ∨ e.2 = ow
  | [], es, e, h => .inl h
  | c :: pre, es, e, h => by
    rcases fold_mem ow pre (putE es c.1 ow) e h with h | h
    · unfold putE at h
      rcases List.mem_append.1 h with h | h
      · exact .inl (List.mem_filter.1 h).1
      · right; rw [List.mem_singleton.1 h]
    · exact .inr h
theorem Inv.take {n : Nat} {es : List Ent} (h : Inv n es) {X Y : Int} {rw_ rh : Nat} (h1 : rw_ ≤ 16) (h2 : rh ≤ 16) {ow : Int} (ho : ow ≠ 1048576) : Inv (n + 1) ((upC X Y rh (rw_ * rh)).foldl (fun es c => putE es c.1 ow) es) := by
  refine ⟨?_, fun e he => ?_⟩
  · have h3 := len_takeE ow (upC X Y rh (rw_ * rh)) es
    have h4 : (upC X Y rh (rw_ * rh)).length = rw_ * rh := by simp [upC]
    have h5 : rw_ * rh ≤ 16 * 16 := Nat.mul_le_mul h1 h2
    have := h.1
    rw [h4] at h3
    omega
  · rcases fold_mem ow _ _ e he with h6 | h6
    · exact h.2 e h6
    · rw [h6]; exact ho
theorem lies_nat {a n s : Int} (h : liesB a n s = true) (hs : s ≤ 16) : ∃ k : Nat, n = (k : Int) ∧ k ≤ 16 := by
  simp only [liesB, Bool.and_eq_true, decide_eq_true_eq] at h
  exact ⟨n.toNat, by omega, by omega⟩
theorem TakeA.calls (p mb : Nat) (W H : Int) (es : List Ent) (X Y Rw Rh ow : Int) (n : Nat) (w : World) (h : Sh w p mb W H es) (hW : 1 ≤ W ∧ W ≤ 16) (hH : 1 ≤ H ∧ H ≤ 16) (hI : Inv n es) (hn : n ≤ 60) (ho : ow ≠ 1048576) :
    Calls Try.prog 20 #[.pointer (some ⟨p, 0, none⟩), .agg #[.int .i64 X, .int .i64 Y, .int .i64 Rw, .int .i64 Rh], .int .i64 ow] w fun e w' =>
      ∃ (r : Int) (es' : List Ent), e = .returned (.int .i64 r) ∧ Sh w' p mb W H es' ∧ Inv (n + 1) es' ∧ w.grownBy w' (some mb) := by
  by_cases hy : liesB X Rw W = true ∧ liesB Y Rh H = true ∧ 1 ≤ ow ∧ ow ≤ 1048576
  · obtain ⟨h1, h2, h3⟩ := hy
    obtain ⟨rw_, rfl, k1⟩ := lies_nat h1 hW.2
    obtain ⟨rh, rfl, k2⟩ := lies_nat h2 hH.2
    refine (Take_ok.calls p mb W H es X Y rw_ rh ow w h (by omega) (by omega) h1 h2 h3 (hI.big hn)).mono fun e w' hq => ?_
    rcases hq with ⟨_, he, hs, hg⟩ | ⟨_, he, hs, hg⟩
    · exact ⟨_, _, he, hs, hI.take k1 k2 ho, hg⟩
    · exact ⟨_, _, he, hs, hI.up, hg⟩
  · refine (Take_no.calls p mb W H es X Y Rw Rh ow w h (by omega) (by omega) hy).mono fun e w' hq => ?_
    obtain ⟨he, hs, hg⟩ := hq
    exact ⟨_, _, he, hs, hI.up, hg⟩
theorem ClearA.calls (p mb : Nat) (W H : Int) (es : List Ent) (ow : Int) (n : Nat) (w : World) (h : Sh w p mb W H es) (hI : Inv n es) (hn : n ≤ 60) :
    Calls Try.prog 21 #[.pointer (some ⟨p, 0, none⟩), .int .i64 ow] w fun e w' => ∃ (r : Int) (es' : List Ent), e = .returned (.int .i64 r) ∧ Sh w' p mb W H es' ∧ Inv (n + 1) es' ∧ w.grownBy w' (some mb) :=
  (Clear.calls p mb W H es ow w h (hI.big hn)).mono fun e w' ⟨he, hs, hg⟩ => ⟨_, _, he, hs, hI.notE ow, hg⟩
theorem RTakeA.calls (g : Nat) (W H : Int) (l : List S59) (X Y Rw Rh ow : Int) (n : Nat) (w : World) (h : RSh w g W H l) (hW : 1 ≤ W ∧ W ≤ 16) (hH : 1 ≤ H ∧ H ≤ 16) (hI : l.length ≤ n) (hn : n ≤ 60) :
    Calls Try.prog 24 #[.pointer (some ⟨g, 0, none⟩), .agg #[.int .i64 X, .int .i64 Y, .int .i64 Rw, .int .i64 Rh], .int .i64 ow] w fun e w' =>
      ∃ (r : Int) (l' : List S59), e = .returned (.int .i64 r) ∧ RSh w' g W H l' ∧ l'.length ≤ n + 1 ∧ w.grownBy w' (some g) := by
  by_cases hy : liesB X Rw W = true ∧ liesB Y Rh H = true ∧ 1 ≤ ow ∧ ow ≤ 1048576
  · obtain ⟨h1, h2, h3⟩ := hy
    obtain ⟨rw_, rfl, k1⟩ := lies_nat h1 hW.2
    obtain ⟨rh, rfl, k2⟩ := lies_nat h2 hH.2
    refine (RTake_ok.calls g W H l X Y rw_ rh ow w h (by omega) (by omega) h1 h2 h3 (by omega)).mono fun e w' hq => ?_
    rcases hq with ⟨_, he, hs, hg⟩ | ⟨_, he, hs, hg⟩
    · exact ⟨_, _, he, hs, by simp; omega, hg⟩
    · exact ⟨_, _, he, hs, by omega, hg⟩
  · refine (RTake_no.calls g W H l X Y Rw Rh ow w h (by omega) (by omega) hy).mono fun e w' hq => ?_
    obtain ⟨he, hb⟩ := hq
    exact ⟨_, _, he, h.below hb, by omega, gB hb _⟩
theorem RClearA.calls (g : Nat) (W H : Int) (l : List S59) (ow : Int) (n : Nat) (w : World) (h : RSh w g W H l) (hI : l.length ≤ n) (hn : n ≤ 60) :
    Calls Try.prog 23 #[.pointer (some ⟨g, 0, none⟩), .int .i64 ow] w fun e w' => ∃ (r : Int) (l' : List S59), e = .returned (.int .i64 r) ∧ RSh w' g W H l' ∧ l'.length ≤ n + 1 ∧ w.grownBy w' (some g) := by
  refine (RClear.calls g W H l ow w h (by omega)).mono fun e w' hq => ?_
  obtain ⟨⟨r, he⟩, hs, hg⟩ := hq
  refine ⟨r, _, he, hs, ?_, hg⟩
  have := List.length_filter_le (fun h : S59 => h.f1 != ow) l
  unfold notR; omega
/-- Both sheets lie here; nothing below B is theirs. -/
structure Two (B : Nat) (w : World) (p mb g : Nat) (W H : Int) (n : Nat) : Prop where
  s : ∃ es, Sh w p mb W H es ∧ Inv n es
  r : ∃ l, RSh w g W H l ∧ l.length ≤ n
  b : B ≤ p ∧ B ≤ mb ∧ B ≤ g ∧ B ≤ w.heap.size
theorem Two.below {B : Nat} {w w' : World} {p mb g : Nat} {W H : Int} {n : Nat} (h : Two B w p mb g W H n) (hb : Below w.heap.size w w') : Two B w' p mb g W H n := by
  obtain ⟨⟨es, h1, h2⟩, ⟨l, h3, h4⟩, h5⟩ := h
  exact ⟨⟨es, h1.below hb, h2⟩, ⟨l, h3.below hb, h4⟩, by have := hb.size; omega⟩
theorem Two.up {B : Nat} {w : World} {p mb g : Nat} {W H : Int} {n : Nat} (h : Two B w p mb g W H n) : Two B w p mb g W H (n + 1) := by
  obtain ⟨⟨es, h1, h2⟩, ⟨l, h3, h4⟩, h5⟩ := h
  exact ⟨⟨es, h1, h2.up⟩, ⟨l, h3, by omega⟩, h5⟩
end Go.Proofs.Ytpljnkfbcgdafaa.P
