/- fill.Lines: a range over the closure of fill.lines, whose body appends; the iterator's boxes and its own variable lie unturned. -/
import Derived.Test.YteeoomenncocpaaP5
import Derived.RangeFuncBox
import Derived.RangeFuncLeaves
import Derived.Shelf.Abstract
import Derived.WalkKit
import Derived.OwnWalkIn
import Derived.TacticsInMore
import Derived.LoopNIn
import Derived.LoopIn
import Derived.Maps.AppendAt
import Derived.Maps.OwnIn
import Derived.RangeFuncNested
import Derived.Test.YteeoomenncocpaaHRight
namespace Go.Proofs.Yteeoomenncocpaa.P
open Go.RowKit Go.Shelf Go.Proofs.YteeoomenncocpaaW.PrintWords Go.Proofs.YteeoomenncocpaaW.PrintLast Go.Proofs.YteeoomenncocpaaW.PrintMore
set_option linter.unusedVariables false
set_option linter.unusedSimpArgs false
attribute [local go_sem] Oper.semAt_some

/-- The block of the row that the box O holds. -/
def rowAt (O : Nat) (W : World) : Option Nat := (W.cell? ⟨O, 0, none⟩).bind Value.ownBlock
/-- What a round of the body keeps: all but the box O and its row. -/
structure KO (n₀ O : Nat) (W W' : World) : Prop where
  bel : Below n₀ W W'
  keep : ∀ k o, W.heap[k]? = some o → o.isCells = true → k ≠ O → rowAt O W ≠ some k → W'.heap[k]? = some o ∧ rowAt O W' ≠ some k
  inn : (∀ g, rowAt O W = some g → g < W.heap.size) → ∀ g, rowAt O W' = some g → g < W'.heap.size
theorem KO.refl (n₀ O : Nat) (W : World) : KO n₀ O W W := ⟨Below.refl _ _, fun _ _ h _ _ hr => ⟨h, hr⟩, fun h => h⟩
theorem KO.t {n₀ O : Nat} {A B C : World} (h : KO n₀ O A B) (k : KO n₀ O B C) : KO n₀ O A C :=
  ⟨h.bel.trans k.bel, fun i o hi hc ho hr => k.keep i o (h.keep i o hi hc ho hr).1 hc ho (h.keep i o hi hc ho hr).2, fun f => k.inn (h.inn f)⟩
theorem rowAt_same {O : Nat} {W W' : World} (h : W'.heap[O]? = W.heap[O]?) : rowAt O W' = rowAt O W := by
  unfold rowAt
  rw [World.cell?_of_block (a := ⟨O, 0, none⟩) h]
theorem KO.b {n₀ O : Nat} {w : World} (hn : n₀ ≤ w.heap.size) (hO : O < w.heap.size) (W : World) (l : Nat) (o o' : Obj) (hl : w.heap.size ≤ l) (h : W.heap[l]? = some o) (hc : o.isCells = false) (hw : o.isWalk = false) : KO n₀ O W (W.putObj l o') := by
  have hr : rowAt O (W.putObj l o') = rowAt O W := rowAt_same (World.putObj_heap_other (by omega))
  refine ⟨belowK_b hn W l o o' hl h hc hw, fun k o1 hk hc1 _ hne => ⟨?_, by rw [hr]; exact hne⟩, fun f g hg => ?_⟩
  · rw [World.putObj_heap_other (fun e => by subst e; rw [h] at hk; cases hk; rw [hc] at hc1; cases hc1)]
    exact hk
  · rw [hr] at hg
    simpa using f g hg
/-- What lies below the heap's end is kept whatever the row is. -/
theorem KO.of_below {n₀ O : Nat} {W W' : World} (hn : n₀ ≤ W.heap.size) (hO : O < W.heap.size) (h : Below W.heap.size W W') : KO n₀ O W W' := by
  have hr : rowAt O W' = rowAt O W := rowAt_same (h.block O hO)
  refine ⟨h.mono hn, fun k o hk _ _ hne => ⟨(h.block k (Array.getElem?_eq_some_iff.1 hk).1).trans hk, by rw [hr]; exact hne⟩, fun f g hg => ?_⟩
  rw [hr] at hg
  exact Nat.lt_of_lt_of_le (f g hg) h.size

def linesN (l0 l1 : List Int) (c : Int) : Nat → Int → Option (List S32)
  | 0, _ => none
  | n + 1, i => if i < (l0.length : Int) then (fill_line.f (4 * l0.length + 8) l0 l1 i c).bind fun r => if i < r.2.1 then (linesN l0 l1 c n r.2.1).map fun q => (⟨r.1, r.2.1, r.2.2.1, r.2.2.2⟩ : S32) :: q else none else some []
theorem linesN_end {l0 l1 : List Int} {c : Int} {m : Nat} {i : Int} {q : List S32} (h : linesN l0 l1 c m i = some q) (hi : ¬ i < (l0.length : Int)) : q = [] := by
  cases m with
  | zero => cases h
  | succ m => simp only [linesN, if_neg hi] at h; exact (Option.some.inj h).symm
theorem linesN_step {l0 l1 : List Int} {c : Int} {m : Nat} {i : Int} {q : List S32} (h : linesN l0 l1 c m i = some q) (hi : i < (l0.length : Int)) :
    ∃ x q' m', q = x :: q' ∧ i < x.f1 ∧ fill_line.f (4 * l0.length + 8) l0 l1 i c = some (x.f0, x.f1, x.f2, x.f3) ∧ linesN l0 l1 c m' x.f1 = some q' := by
  cases m with
  | zero => cases h
  | succ m =>
    simp only [linesN, if_pos hi] at h
    obtain ⟨⟨r1, r2, r3, r4⟩, h1, h2⟩ := Option.bind_eq_some_iff.1 h
    simp only at h2
    by_cases hr : i < r2
    · rw [if_pos hr] at h2
      obtain ⟨q', h3, rfl⟩ := Option.map_eq_some_iff.1 h2
      exact ⟨_, q', m, rfl, hr, h1, h3⟩
    · rw [if_neg hr] at h2; cases h2
set_option maxRecDepth 100000 in
set_option maxHeartbeats 4000000 in
theorem lines_stops (n : Nat) (hn : 1 ≤ n) (wc : World) (O B1 B2 B3 : Nat) (A0 : Option Addr) (c0 : Nat) (l0 : List Int) (A1 : Option Addr) (c1 : Nat) (l1 : List Int) (c : Int) (L : List S32) (m0 : Nat) (hL : linesN l0 l1 c m0 0 = some L) (w : World)
    (hwc : Below wc.heap.size wc w) (hr0 : Kd.C (Kd.int .i64) wc A0 l0.length l0) (hc0 : l0.length ≤ c0) (hr1 : Kd.C (Kd.int .i64) wc A1 l1.length l1) (hc1 : l1.length ≤ c1)
    (hO : O < w.heap.size) (hOr : rowAt O w = none) (h1 : Boxed w B1 22 (.slice A0 l0.length c0)) (h2 : Boxed w B2 22 (.slice A1 l1.length c1)) (h3 : Boxed w B3 3 (.int .i64 c)) (n1 : B1 ≠ O) (n2 : B2 ≠ O) (n3 : B3 ≠ O) :
    SeqStopsK Fence.wide n Try.prog 26 #[.pointer (some ⟨B1, 0, none⟩), .pointer (some ⟨B2, 0, none⟩), .pointer (some ⟨B3, 0, none⟩)] (fun x : S32 => #[Value.agg #[.int .i64 x.f0, .int .i64 x.f1, .int .i64 x.f2, .bool x.f3]]) (KO wc.heap.size O) (fun ys => ys = L) (fun _ => True) L.length w := fun l J Jx W hW hJ hJx hY h0 => by
  refine callsIn_of_wp Try.func26 rfl trivial ?_ rfl
  simp only [Try.ntmps26, List.size_toArray, List.length_cons, List.length_nil, Nat.reduceAdd, Nat.reduceSub, Array.replicate_succ, Array.replicate_zero, List.push_toArray, List.append_toArray, List.nil_append, List.cons_append]
  gi_wp2
  gi_loopw [5] (fun p wr => ∃ (pre rest : List S32) (i : Int) (m : Nat), p = .int .i64 i ∧ 0 ≤ i ∧ linesN l0 l1 c m i = some rest ∧ L = pre ++ rest ∧ J pre wr ∧ KO wc.heap.size O W wr)
    (fun p _ => l0.length - (intOf p).toNat)
  case atStart => exact ⟨[], L, 0, m0, rfl, Int.le_refl _, hL, rfl, h0, KO.refl _ _ _⟩
  case round =>
    obtain ⟨pre, rest, i, m, rfl, hi0, hl, hx, hJs, hK⟩ := hrel
    have hOW : rowAt O W = none := (rowAt_same (hW.block O hO)).trans hOr
    have q1 := (hK.keep B1 _ ((hW.block B1 h1.lt).trans h1) rfl n1 (by rw [hOW]; simp)).1
    have q2 := (hK.keep B2 _ ((hW.block B2 h2.lt).trans h2) rfl n2 (by rw [hOW]; simp)).1
    have q3 := (hK.keep B3 _ ((hW.block B3 h3.lt).trans h3) rfl n3 (by rw [hOW]; simp)).1
    have v1 := Boxed.cell q1
    have v2 := Boxed.cell q2
    have v3 := Boxed.cell q3
    have HK := Aside0.mk hK
    have hBw : Below wc.heap.size wc wr := (hwc.trans (hW.mono hwc.size)).trans hK.bel
    by_cases hlt : i < (l0.length : Int)
    · obtain ⟨x, q', m', rfl, hxi, hf, hl'⟩ := linesN_step hl hlt
      have hOw : O < wr.heap.size := Nat.lt_of_lt_of_le (Nat.lt_of_lt_of_le hO hW.size) hK.bel.size
      have hin : ∀ g, rowAt O wr = some g → g < wr.heap.size := hK.inn (by rw [hOW]; simp)
      gi_wp2_with (refine ⟨trivial, ?_⟩; gi_at_call 27; refine (callsIn_wide.2 (fill_line.calls _ A0 c0 l0 A1 c1 l1 i c x.f0 x.f1 x.f2 x.f3 wr (Kd.C_below hr0 hBw) hc0 (Kd.C_below hr1 hBw) hc1 hf)).mono ?_; rintro e w1 ⟨rfl, hb⟩; have hbA : Below wr.heap.size wr (w1.alloc (.cells #[.int .i64 x.f0, .int .i64 x.f1, .int .i64 x.f2, .bool x.f3] 32)) := hb.alloc hb.size _; obtain ⟨fn, tmps, assign, body, hy, hR⟩ := hY pre x (w1.alloc (.cells #[.int .i64 x.f0, .int .i64 x.f1, .int .i64 x.f2, .bool x.f3] 32)) (hJ pre wr _ none hJs ⟨hbA.os, hbA.tape, hbA.output, hbA.size, fun k hk _ => hbA.block k hk⟩ (fun r e => by cases e)) (by rw [hx]; simp))
      refine hR.mono ?_
      rintro e W3 (⟨rfl, hJ3, hk3⟩ | ⟨rfl, hJx3⟩)
      · have hrw : rowAt O (w1.alloc (.cells #[.int .i64 x.f0, .int .i64 x.f1, .int .i64 x.f2, .bool x.f3] 32)) = rowAt O wr := rowAt_same (hbA.block O hOw)
        have hl3 := (hk3.keep w1.heap.size _ (World.alloc_heap_new w1 _) rfl (by have := hb.size; omega) (by rw [hrw]; intro e; have := hin _ e; have := hb.size; omega)).1
        have hc3 : W3.cell? ⟨w1.heap.size, 1, none⟩ = some (.int .i64 x.f1) := by simp [World.cell?, hl3]
        gi_wp2
        go_roundw
        case rel => exact ⟨pre ++ [x], q', x.f1, m', rfl, by omega, hl', by simp [hx], hJ3, KO.t HK.out (KO.t (KO.of_below (by have := hBw.size; omega) hOw hbA) hk3)⟩
        case measure => simp [intOf]; omega
      · gi_wp2
        refine bodyPost_ret (results_none rfl _ _ _) rfl ?_
        exact ⟨⟨_, rfl⟩, .inr ⟨_, trivial, hJx3⟩⟩
    · obtain rfl := linesN_end hl hlt
      gi_wp2
      go_end0
      exact ⟨⟨_, rfl⟩, .inl hJs⟩
set_option maxHeartbeats 1000000 in
theorem lines_in (n : Nat) (v0 v1 : Value) (c : Int) (w : World) (h0 : v0.oneCell' = true) (h1 : v1.oneCell' = true) :
    CallsIn Fence.wide n Try.prog 17 #[v0, v1, .int .i64 c] w fun e w' => e = .returned (.func (.func 26) #[] #[.pointer (some ⟨w.heap.size, 0, none⟩), .pointer (some ⟨w.heap.size + 1, 0, none⟩), .pointer (some ⟨w.heap.size + 2, 0, none⟩)]) ∧
      w' = ((w.alloc (.cells #[v0] 22)).alloc (.cells #[v1] 22)).alloc (.cells #[.int .i64 c] 3) := by
  refine callsIn_of_wp Try.func17 rfl trivial ?_ rfl
  simp only [Try.ntmps17, List.size_toArray, List.length_cons, List.length_nil, Nat.reduceAdd, Nat.reduceSub, Array.replicate_succ, Array.replicate_zero, List.push_toArray, List.append_toArray, List.nil_append, List.cons_append]
  gi_wp2
  go_ret
  exact ⟨rfl, rfl⟩
theorem info32 : (Try.prog.info? 32).map (fun i => (i.zero, i.size, i.bytes)) = some (some (.agg #[.int .i64 0, .int .i64 0, .int .i64 0, .bool false]), 4, 32) := by kernel_rfl
def cells32 (x : S32) : List Value := [.int .i64 x.f0, .int .i64 x.f1, .int .i64 x.f2, .bool x.f3]
def fill_Lines.f (l0 l1 : List Int) (a2 : Int) : Option (List S32 × Int) :=
  if l0.length ≤ 1048576 then (if l1.length ≤ 1048576 then (if rightF l0 l1 a2 = true then (linesN l0 l1 a2 (l0.length + 1) 0).map fun q => (q, 0) else some ([], 1)) else none) else none
theorem linesN_len {l0 l1 : List Int} {c : Int} : ∀ {m : Nat} {i : Int} {q : List S32}, 0 ≤ i → linesN l0 l1 c m i = some q → q.length ≤ l0.length - i.toNat
  | 0, _, _, _, h => by cases h
  | m + 1, i, q, hi, h => by
    by_cases hc : i < (l0.length : Int)
    · simp only [linesN, if_pos hc] at h
      obtain ⟨⟨r1, r2, r3, r4⟩, h1, h2⟩ := Option.bind_eq_some_iff.1 h
      simp only at h2
      by_cases hr : i < r2
      · rw [if_pos hr] at h2
        obtain ⟨q', h3, rfl⟩ := Option.map_eq_some_iff.1 h2
        have := linesN_len (m := m) (i := r2) (by omega) h3
        by_cases h5 : q' = []
        · subst h5; simp; omega
        · have : 0 < q'.length := List.length_pos_iff.2 h5
          simp; omega
      · rw [if_neg hr] at h2; cases h2
    · rw [linesN_end h hc]; simp
/-- The cells of a row of lines, as the row's kind tells them. -/
theorem reps32 {w : World} {base : Nat} {ok : Nat → Prop} (L : List S32) : Reps (k32.M w base ok) 4 L (L.flatMap cells32) := by
  have gen : ∀ (b a : List S32), Reps (k32.M w base ok) 4 a (a.flatMap cells32) → Reps (k32.M w base ok) 4 (a ++ b) ((a ++ b).flatMap cells32) := by
    intro b
    induction b with
    | nil => intro a h; simpa using h
    | cons x b ih =>
      intro a h
      have h2 := ih (a ++ [x]) (by
        have := Reps.snoc h (k32_mkM w base ok x) rfl
        rw [List.flatMap_append]
        simpa [cells32] using this)
      simpa using h2
  simpa using gen L [] (Reps.none _ _)
theorem cells_new4 (W : World) (x : S32) : ∀ j u, (cells32 x)[j]? = some u → (W.alloc (.cells #[.int .i64 x.f0, .int .i64 x.f1, .int .i64 x.f2, .bool x.f3] 32)).cell? ((⟨W.heap.size, 0, none⟩ : Addr).add j) = some u := by
  intro j u h
  refine (fun (gen : ∀ (W' : World) (g : Nat), W'.heap[g]? = some (.cells #[.int .i64 x.f0, .int .i64 x.f1, .int .i64 x.f2, .bool x.f3] 32) → W'.cell? ((⟨g, 0, none⟩ : Addr).add j) = some u) => gen _ _ (World.alloc_heap_new W _)) ?_
  intro W' g hn
  have hj : j < 4 := by
    have := (List.getElem?_eq_some_iff.1 h).1
    simpa [cells32] using this
  have hj4 : j = 0 ∨ j = 1 ∨ j = 2 ∨ j = 3 := by omega
  rcases hj4 with rfl | rfl | rfl | rfl <;> simp [World.cell?, Addr.add, hn] <;> simpa [cells32] using h
theorem KO.app {n₀ O t e size m : Nat} {W w2 : World} {v v' : Value} {ys : List Value} {tmp : Obj} (hv : Boxed W O t v) (hgrow : (W.alloc tmp).grownBy w2 v.ownBlock) (hv1 : Boxed w2 O t v) (hown' : w2.ownsRow n₀ e size v' m ys)
    (hblk : v'.ownBlock = v.ownBlock ∨ v'.ownBlock = some (W.alloc tmp).heap.size) (hb2 : Below n₀ W (w2.setCell ⟨O, 0, none⟩ v')) : KO n₀ O W (w2.setCell ⟨O, 0, none⟩ v') := by
  have r0 : rowAt O W = v.ownBlock := by unfold rowAt; rw [hv.cell]; rfl
  have r2 : rowAt O (w2.setCell ⟨O, 0, none⟩ v') = v'.ownBlock := by unfold rowAt; rw [(hv1.set v').cell]; rfl
  refine ⟨hb2, fun k o hk hc hO hne => ?_, fun _ g hg => ?_⟩
  · have hlt := (Array.getElem?_eq_some_iff.1 hk).1
    rw [r0] at hne
    refine ⟨?_, ?_⟩
    · rw [Below.heap_setCell w2 ⟨O, 0, none⟩ v' k hO, hgrow.block k (by simp; omega) (fun e => hne e.symm), Below.heap_alloc W tmp k hlt]
      exact hk
    · rw [r2]
      rcases hblk with h | h
      · rw [h]; exact hne
      · rw [h]; intro e; simp at e; omega
  · rw [r2] at hg
    have := own_lt hown' g hg
    simpa using this
theorem boxL_own (B : Nat) (x : S32) : Own (fun (_ : Unit) W => W.heap[B]? = some (.cells #[.int .i64 x.f0, .int .i64 x.f1, .int .i64 x.f2, .bool x.f3] 32)) := fun s X Y row hs hg hr =>
  (hg.block B (Array.getElem?_eq_some_iff.1 hs).1 (fun e => by obtain ⟨o, ho, hc⟩ := hr B e.symm; rw [hs] at ho; cases ho; cases hc)).trans hs
set_option maxRecDepth 100000 in
set_option maxHeartbeats 4000000 in
theorem fill_Lines.calls (A0 : Option Addr) (c0 : Nat) (l0 : List Int) (A1 : Option Addr) (c1 : Nat) (l1 : List Int) (a2 : Int) (r1 : List (S32)) (r2 : Int) (w : World) (hr0 : Kd.C (Kd.int .i64) w A0 l0.length l0) (hc0 : l0.length ≤ c0) (hr1 : Kd.C (Kd.int .i64) w A1 l1.length l1) (hc1 : l1.length ≤ c1) (h : fill_Lines.f l0 l1 a2 = some (r1, r2)) :
    Calls Try.prog 7 #[.slice A0 l0.length c0, .slice A1 l1.length c1, .int .i64 a2] w fun e w' => ∃ v0_ : Value, e = .returned (.tuple #[v0_, .int .i64 r2]) ∧ Kd.R k32 32 w' w.heap.size (fun _ => True) v0_ r1 ∧ Below w.heap.size w w' := by
  unfold fill_Lines.f at h
  by_cases b0 : l0.length ≤ 1048576
  case neg => rw [if_neg b0] at h; cases h
  rw [if_pos b0] at h
  by_cases b1 : l1.length ≤ 1048576
  case neg => rw [if_neg b1] at h; cases h
  rw [if_pos b1] at h
  have hrc := right_calls A0 c0 l0 A1 c1 l1 a2 w hr0 hc0 hr1 hc1 (by omega) (by omega)
  by_cases hR : rightF l0 l1 a2 = true
  case neg =>
    rw [if_neg hR] at h
    rw [show rightF l0 l1 a2 = false by simpa using hR] at hrc
    cases h
    refine (callsIn_wide (n := 6)).1 ?_
    refine callsIn_of_wp_marks Try.func7 rfl trivial ?_ rfl
    simp only [Try.ntmps7, List.size_toArray, List.length_cons, List.length_nil, Nat.reduceAdd, Nat.reduceSub, Array.replicate_succ, Array.replicate_zero, List.push_toArray, List.append_toArray, List.nil_append, List.cons_append]
    gi_wp2_with (refine ⟨trivial, ?_⟩; gi_at_call 16; refine (callsIn_wide.2 hrc).mono ?_; rintro e w1 ⟨rfl, hb⟩)
    exact ⟨_, results_tmp2 rfl _ _ _, _, rfl, Kd.R_nil _ _ _ _ _, hb⟩
  rw [if_pos hR] at h
  rw [hR] at hrc
  obtain ⟨L, hL, e⟩ := Option.map_eq_some_iff.1 h
  cases e
  have hlen := linesN_len (Int.le_refl 0) hL
  refine (callsIn_wide (n := 6)).1 ?_
  refine callsIn_of_wp_marks Try.func7 rfl trivial ?_ rfl
  simp only [Try.ntmps7, List.size_toArray, List.length_cons, List.length_nil, Nat.reduceAdd, Nat.reduceSub, Array.replicate_succ, Array.replicate_zero, List.push_toArray, List.append_toArray, List.nil_append, List.cons_append]
  gi_wp2_with (first | (refine ⟨trivial, ?_⟩; gi_at_call 16; refine (callsIn_wide.2 hrc).mono ?_; rintro e w1 ⟨rfl, hb⟩) | (refine ⟨trivial, ?_⟩; gi_at_call 17; refine (lines_in _ _ _ a2 _ rfl rfl).mono ?_; rintro e w2 ⟨rfl, rfl⟩))
  obtain ⟨i0, hi, hz0, hz1, hz2⟩ := info_parts info32
  obtain ⟨W0, hW0⟩ : ∃ W0, ((((w1.alloc (.cells #[.slice none 0 0] 25)).alloc (.cells #[.slice A0 l0.length c0] 22)).alloc (.cells #[.slice A1 l1.length c1] 22)).alloc (.cells #[.int .i64 a2] 3)) = W0 := ⟨_, rfl⟩
  have bO : Boxed W0 w1.heap.size 25 (.slice none 0 0) := by rw [← hW0]; exact (((Boxed.new w1 25 _).alloc _).alloc _).alloc _
  have x1 : Boxed W0 (w1.heap.size + 1) 22 (.slice A0 l0.length c0) := by
    have := ((Boxed.new (w1.alloc (.cells #[.slice none 0 0] 25)) 22 (.slice A0 l0.length c0)).alloc (.cells #[.slice A1 l1.length c1] 22)).alloc (.cells #[.int .i64 a2] 3)
    rw [← hW0]; simpa using this
  have x2 : Boxed W0 (w1.heap.size + 1 + 1) 22 (.slice A1 l1.length c1) := by
    have := (Boxed.new ((w1.alloc (.cells #[.slice none 0 0] 25)).alloc (.cells #[.slice A0 l0.length c0] 22)) 22 (.slice A1 l1.length c1)).alloc (.cells #[.int .i64 a2] 3)
    rw [← hW0]; simpa using this
  have x3 : Boxed W0 (w1.heap.size + 1 + 2) 3 (.int .i64 a2) := by
    have := Boxed.new (((w1.alloc (.cells #[.slice none 0 0] 25)).alloc (.cells #[.slice A0 l0.length c0] 22)).alloc (.cells #[.slice A1 l1.length c1] 22)) 3 (.int .i64 a2)
    rw [← hW0]; simpa using this
  have hsz : W0.heap.size = w1.heap.size + 4 := by rw [← hW0]; simp
  have hB0 : Below w.heap.size w W0 := by
    have := hb.size
    rw [← hW0]
    exact (((hb.alloc (by omega) _).alloc (by simp; omega) _).alloc (by simp; omega) _).alloc (by simp; omega) _
  rw [hW0]
  clear hW0
  have hw1 := hb.size
  refine wpIn_rangeFunc_ownH rfl (by omega) (gf := 26) (lb := #[.pointer (some ⟨w1.heap.size + 1, 0, none⟩), .pointer (some ⟨w1.heap.size + 1 + 1, 0, none⟩), .pointer (some ⟨w1.heap.size + 1 + 2, 0, none⟩)]) rfl trivial (enters_of Try.func26 (by kernel_rfl) rfl)
    (lines_stops _ (by omega) w w1.heap.size (w1.heap.size + 1) (w1.heap.size + 1 + 1) (w1.heap.size + 1 + 2) A0 c0 l0 A1 c1 l1 a2 r1 _ hL W0 hB0 hr0 hc0 hr1 hc1 (by omega) (by unfold rowAt; rw [bO.cell]; rfl) x1 x2 x3 (by omega) (by omega) (by omega))
    KO.t (KO.b (by omega) (by omega)) (Below.refl _ _) (fun _ => rfl)
    (fun (pre : List S32) W => (∃ v, Boxed W w1.heap.size 25 v ∧ W.ownsRow w.heap.size 32 4 v pre.length (pre.flatMap cells32) ∧ True) ∧ Below w.heap.size w W)
    (fun _ _ _ => False)
    (OwnFrom.and (Own.from (holdsRow_own w.heap.size w1.heap.size 25 32 4 (fun (pre : List S32) => pre.length) (fun (pre : List S32) => pre.flatMap cells32) (fun _ _ => True)) _) (ownFrom_below (Nat.le_refl _) (by omega)))
    (fun _ _ _ _ _ hs _ _ => hs)
    ⟨⟨_, bO, World.ownsRow_nil _ _ _ _, trivial⟩, hB0⟩
    (fun x a' W => ∃ Bx, w1.heap.size < Bx ∧ W.heap[Bx]? = some (.cells #[.int .i64 x.f0, .int .i64 x.f1, .int .i64 x.f2, .bool x.f3] 32) ∧ a' = { tmps := #[.slice A0 l0.length c0, .slice A1 l1.length c1, .int .i64 a2, undef, undef, undef, .slice none 0 0, .int .i64 0, .pointer (some ⟨w1.heap.size, 0, none⟩), .pointer (some ⟨Bx, 0, none⟩), .slice A0 l0.length c0, .slice A1 l1.length c1, .int .i64 a2, .bool true, .bool false, .slice A0 l0.length c0, .slice A1 l1.length c1, .int .i64 a2, .func (.func 26) #[] #[.pointer (some ⟨w1.heap.size + 1, 0, none⟩), .pointer (some ⟨w1.heap.size + 1 + 1, 0, none⟩), .pointer (some ⟨w1.heap.size + 1 + 2, 0, none⟩)], .agg #[.int .i64 x.f0, .int .i64 x.f1, .int .i64 x.f2, .bool x.f3], undef, undef, undef, undef, undef], defers := [] })
    (fun x a' _ X Y row hs hg hr => by obtain ⟨Bx, g1, g2, g3⟩ := hs; exact ⟨Bx, g1, boxL_own Bx x () X Y row g2 hg (fun r e => (hr r e).2), g3⟩)
    ?assign ?body ?done ?stop
  case assign =>
    rintro l pre x W K ⟨⟨v, hv, hrow, _⟩, hB⟩ hK
    have hs := hB.size
    gi_wp2
    exact hK _ _ ((KeepsOthers.alloc _ _).from _) (KO.of_below (by omega) hv.lt ((Below.refl _ W).alloc (Nat.le_refl _) _)) ⟨⟨v, hv.alloc _, hrow.alloc _, trivial⟩, hB.alloc hs _⟩ ⟨W.heap.size, hv.lt, World.alloc_heap_new W _, rfl⟩
  case body =>
    rintro l pre x a' W hl ⟨r, hr⟩ ⟨⟨v, hv, hrow, _⟩, hB⟩ ⟨Bx, hBx, bX, rfl⟩ hlt
    have hs := hB.size
    have hc := hv.cell
    have p0 : W.cell? ⟨Bx, 0, none⟩ = some (.int .i64 x.f0) := by simp [World.cell?, bX]
    have p1 : W.cell? ⟨Bx, 1, none⟩ = some (.int .i64 x.f1) := by simp [World.cell?, bX]
    have p2 : W.cell? ⟨Bx, 2, none⟩ = some (.int .i64 x.f2) := by simp [World.cell?, bX]
    have p3 : W.cell? ⟨Bx, 3, none⟩ = some (.bool x.f3) := by simp [World.cell?, bX]
    gi_wp2_with (gi_at_builtin; refine wpListIn_append_own_at _ rfl _ _ 25 rfl w.heap.size 32 i0 (.agg #[.int .i64 0, .int .i64 0, .int .i64 0, .bool false]) 4 32 Try.underlying25 hi hz0 hz1 hz2 rfl (by decide) _ _ _ rfl (hrow.alloc _) ⟨W.heap.size, 0, none⟩ 1 1 (cells32 x) rfl rfl (cells_new4 W x) (by simp [cells32, Value.oneCell']) (by simp only [maxLen]; omega) (by omega) (by simp; omega) ?_; intro v' w2 hown' hgrow _ hblk; obtain ⟨g', cap', rfl⟩ := ownsRow_succ hown'; obtain ⟨hv1, hv2, hr2, hk2, hb2⟩ := hv.appended (by decide) hrow hs (show w.heap.size ≤ w1.heap.size by omega) hown' hgrow; have hko := KO.app hv hgrow hv1 hown' hblk hb2; have hc1 := hv1.cell; have hf1 := hv1.frozen)
    exact ⟨hk2.from _, hko, ⟨_, hv2, by simpa [List.flatMap_append] using hr2, trivial⟩, hB.trans hb2⟩
  case done =>
    rintro D ys W hD rfl ⟨⟨v, hv, hrow, _⟩, hB⟩ hK
    have hc := hv.cell
    have HK := Aside0.mk hK
    gi_wp2
    refine ⟨by simp, .inl ⟨_, _, rfl, run_takeDeferred HK.out, ?_⟩⟩
    exact ⟨_, results_tmp2 rfl _ _ _, v, rfl, ⟨fun _ _ => trivial, _, ownsRow_putObj hrow _ HK.out rfl, reps32 ys⟩, hB.trans (belowK_b (w := w) (Nat.le_refl _) W D _ _ (by omega) HK.out rfl rfl)⟩
  case stop =>
    rintro D c pre W _ _ h _
    exact h.elim
end Go.Proofs.Yteeoomenncocpaa.P
