/- cluster.Starts: a range over the closure of cluster.starts, which keeps its state in a variable of its own. -/
import Derived.Test.YtignelhjipbnkaaP4
import Derived.Test.YtignelhjipbnkaaP5
import Derived.Test.YtignelhjipbnkaaHSeq
namespace Go.Proofs.Ytignelhjipbnkaa.P
open Go.RowKit Go.Shelf Go.Proofs.YtignelhjipbnkaaW.PrintWords Go.Proofs.YtignelhjipbnkaaW.PrintLast Go.Proofs.YtignelhjipbnkaaW.PrintMore
set_option linter.unusedVariables false
set_option linter.unusedSimpArgs false
attribute [local go_sem] Oper.semAt_some

/-- The block of the row that the box O holds. -/
def rowAt (O : Nat) (W : World) : Option Nat := (W.cell? ⟨O, 0, none⟩).bind Value.ownBlock
/-- What a round of the body keeps: all but the box O and its row. -/
structure KO (n₀ O : Nat) (W W' : World) : Prop where
  bel : Below n₀ W W'
  keep : ∀ k o, W.heap[k]? = some o → o.isCells = true → k ≠ O → rowAt O W ≠ some k → W'.heap[k]? = some o ∧ rowAt O W' ≠ some k
theorem KO.refl (n₀ O : Nat) (W : World) : KO n₀ O W W := ⟨Below.refl _ _, fun _ _ h _ _ hr => ⟨h, hr⟩⟩
theorem KO.t {n₀ O : Nat} {A B C : World} (h : KO n₀ O A B) (k : KO n₀ O B C) : KO n₀ O A C :=
  ⟨h.bel.trans k.bel, fun i o hi hc ho hr => k.keep i o (h.keep i o hi hc ho hr).1 hc ho (h.keep i o hi hc ho hr).2⟩
theorem rowAt_same {O : Nat} {W W' : World} (h : W'.heap[O]? = W.heap[O]?) : rowAt O W' = rowAt O W := by
  unfold rowAt
  rw [World.cell?_of_block (a := ⟨O, 0, none⟩) h]
theorem KO.b {n₀ O : Nat} {w : World} (hn : n₀ ≤ w.heap.size) (hO : O < w.heap.size) (W : World) (l : Nat) (o o' : Obj) (hl : w.heap.size ≤ l) (h : W.heap[l]? = some o) (hc : o.isCells = false) (hw : o.isWalk = false) : KO n₀ O W (W.putObj l o') := by
  have hr : rowAt O (W.putObj l o') = rowAt O W := rowAt_same (World.putObj_heap_other (by omega))
  refine ⟨belowK_b hn W l o o' hl h hc hw, fun k o1 hk hc1 _ hne => ⟨?_, by rw [hr]; exact hne⟩⟩
  rw [World.putObj_heap_other (fun e => by subst e; rw [h] at hk; cases hk; rw [hc] at hc1; cases hc1)]
  exact hk
/-- A step of the iterator's own: what lay when it was called lies on, but for nothing; a block of cells of its own, no box, no row, may be written; new ones may be laid. -/
def StepW (n₀ O : Nat) (W A B : World) : Prop := Below A.heap.size A B ∨ ∃ g, W.heap.size ≤ g ∧ g ≠ O ∧ n₀ ≤ g ∧ rowAt O A ≠ some g ∧ (∃ o, A.heap[g]? = some o ∧ o.isCells = true) ∧ A.grownBy B (some g)
/-- What stands in a state. -/
def st (p : Int × Bool × Bool) : Array Value := #[.int .i64 p.1, .bool p.2.1, .bool p.2.2]
def thenF (s : Int × Bool × Bool) (j : Int) : Int × Bool × Bool := (cluster_state_then.f s.1 s.2.1 s.2.2 j).getD s
def breaksF (s : Int × Bool × Bool) (j : Int) : Bool := (cluster_state_breaks.f 40 s.1 s.2.1 s.2.2 j).getD false
theorem then_ok (a : Int) (b c : Bool) (j : Int) : ∃ r, cluster_state_then.f a b c j = some r := by
  unfold cluster_state_then.f
  repeat' split
  all_goals exact ⟨_, rfl⟩
theorem thenF_eq (s : Int × Bool × Bool) (j : Int) : cluster_state_then.f s.1 s.2.1 s.2.2 j = some ((thenF s j).1, (thenF s j).2.1, (thenF s j).2.2) := by
  obtain ⟨r, h⟩ := then_ok s.1 s.2.1 s.2.2 j
  unfold thenF
  rw [h]
  rfl
/-- Where the clusters of what is left begin, i being behind. -/
def startsN (l : List Int) : Nat → Nat → Int × Bool × Bool → Option (List Int)
  | 0, _, _ => some []
  | d + 1, i, s => (cluster_state_breaks.f 40 s.1 s.2.1 s.2.2 (rd l (i : Int))).bind fun b => (startsN l d (i + 1) (thenF s (rd l (i : Int)))).map fun q => if b = true then (i : Int) :: q else q
def cluster_Starts.f (l0 : List Int) : Option (List Int) := if l0.length ≤ 1099511627776 then startsN l0 l0.length 0 (3, false, false) else none
theorem info3' : (Try.prog.info? 3).map (fun i => (i.zero, i.size, i.bytes)) = some (some (.int .i64 0), 1, 8) := by kernel_rfl
theorem starts_in (n : Nat) (v0 : Value) (w : World) (h0 : v0.oneCell' = true) :
    CallsIn Fence.wide n Try.prog 15 #[v0] w fun e w' => e = .returned (.func (.func 22) #[] #[.pointer (some ⟨w.heap.size, 0, none⟩)]) ∧ w' = w.alloc (.cells #[v0] 22) := by
  refine callsIn_of_wp Try.func15 rfl trivial ?_ rfl
  simp only [Try.ntmps15, List.size_toArray, List.length_cons, List.length_nil, Nat.reduceAdd, Nat.reduceSub, Array.replicate_succ, Array.replicate_zero, List.push_toArray, List.append_toArray, List.nil_append, List.cons_append]
  gi_wp2
  go_ret
  exact ⟨rfl, rfl⟩
theorem grS (w : World) (b i : Nat) (v : Value) : w.grownBy (w.setCell ⟨b, i, none⟩ v) (some b) :=
  ⟨rfl, rfl, rfl, by simp, fun k _ hk => Below.heap_setCell w ⟨b, i, none⟩ v k (fun e => hk (by rw [e]))⟩
/-- The state's variable is written: what stands behind it. -/
theorem fin3 {n₀ O : Nat} {wc W w5 : World} {s : Int × Bool × Bool} (t : Int × Bool × Bool) {J : List Int → World → Prop} {pre : List Int} (hJ : ∀ (s : List Int) (A B : World), J s A → StepW n₀ O W A B → J s B) (h5 : J pre w5)
    (hst : w5.heap[W.heap.size]? = some (.cells (st s) 41 (0, 0))) (hO : O < W.heap.size) (hn : n₀ ≤ W.heap.size) (hr : rowAt O w5 ≠ some W.heap.size) (hB : Below n₀ wc w5) :
    J pre (((w5.setCell ⟨W.heap.size, 0, none⟩ (.int .i64 t.1)).setCell ⟨W.heap.size, 1, none⟩ (.bool t.2.1)).setCell ⟨W.heap.size, 2, none⟩ (.bool t.2.2)) ∧
    (((w5.setCell ⟨W.heap.size, 0, none⟩ (.int .i64 t.1)).setCell ⟨W.heap.size, 1, none⟩ (.bool t.2.1)).setCell ⟨W.heap.size, 2, none⟩ (.bool t.2.2)).heap[W.heap.size]? = some (.cells (st t) 41 (0, 0)) ∧
    rowAt O (((w5.setCell ⟨W.heap.size, 0, none⟩ (.int .i64 t.1)).setCell ⟨W.heap.size, 1, none⟩ (.bool t.2.1)).setCell ⟨W.heap.size, 2, none⟩ (.bool t.2.2)) ≠ some W.heap.size ∧
    Below n₀ wc (((w5.setCell ⟨W.heap.size, 0, none⟩ (.int .i64 t.1)).setCell ⟨W.heap.size, 1, none⟩ (.bool t.2.1)).setCell ⟨W.heap.size, 2, none⟩ (.bool t.2.2)) := by
  have hg := (grS w5 W.heap.size 0 (.int .i64 t.1)).trans ((grS _ W.heap.size 1 (.bool t.2.1)).trans (grS _ W.heap.size 2 (.bool t.2.2)))
  have hlt : O < w5.heap.size := Nat.lt_trans hO (blk_lt hst)
  refine ⟨hJ _ _ _ h5 (.inr ⟨W.heap.size, Nat.le_refl _, by omega, hn, hr, ⟨_, hst, rfl⟩, hg⟩), blk_put (blk_put (blk_put hst 0 _ rfl) 1 _ rfl) 2 _ rfl, ?_, ((hB.setCell hn _).setCell hn _).setCell hn _⟩
  rw [rowAt_same (hg.block O hlt (by intro e; cases e; omega))]
  exact hr
set_option maxRecDepth 100000 in
set_option maxHeartbeats 4000000 in
theorem starts_stops (n : Nat) (hn : 1 ≤ n) (wc : World) (O Bl : Nat) (A0 : Option Addr) (c0 : Nat) (l0 : List Int) (L : List Int) (hL : startsN l0 l0.length 0 (3, false, false) = some L) (hlen : l0.length ≤ 1099511627776) (w : World)
    (hwc : Below wc.heap.size wc w) (hr0 : Kd.C (Kd.int .i64) wc A0 l0.length l0) (hc0 : l0.length ≤ c0) (hO : O < w.heap.size) (hOc : wc.heap.size ≤ O) (hOr : rowAt O w = none) (h1 : Boxed w Bl 22 (.slice A0 l0.length c0)) (n1 : Bl ≠ O) :
    SeqW Fence.wide n Try.prog 22 #[.pointer (some ⟨Bl, 0, none⟩)] (fun x : Int => #[Value.int .i64 x]) (KO wc.heap.size O) (StepW wc.heap.size O) (fun ys => ys = L) L.length w := fun l J W hW hJ hY h0 => by
  have hu41 := Try.underlying41
  refine callsIn_of_wp Try.func22 rfl trivial ?_ rfl
  simp only [Try.ntmps22, List.size_toArray, List.length_cons, List.length_nil, Nat.reduceAdd, Nat.reduceSub, Array.replicate_succ, Array.replicate_zero, List.push_toArray, List.append_toArray, List.nil_append, List.cons_append]
  have hOW : rowAt O W = none := (rowAt_same (hW.block O hO)).trans hOr
  have v1 : (W.alloc (.cells #[.int .i64 3, .bool false, .bool false] 41)).cell? ⟨Bl, 0, none⟩ = some (.slice A0 l0.length c0) := cI (blk_alloc ((hW.block Bl h1.lt).trans h1) _) 0 rfl
  gi_wp2
  gi_loopw [9] (fun p wr => ∃ (pre rest : List Int) (i d : Nat) (s : Int × Bool × Bool), p = .int .i64 (i : Int) ∧ i + d = l0.length ∧ startsN l0 d i s = some rest ∧ L = pre ++ rest ∧ J pre wr ∧ wr.heap[W.heap.size]? = some (.cells (st s) 41 (0, 0)) ∧ rowAt O wr ≠ some W.heap.size ∧ Below wc.heap.size wc wr)
    (fun p _ => l0.length - (intOf p).toNat)
  case atStart =>
    refine ⟨[], L, 0, l0.length, (3, false, false), rfl, by omega, hL, rfl, hJ _ _ _ h0 (.inl (below_alloc (Below.refl _ _) _)), ?_, ?_, ?_⟩
    · exact blk_new W _
    · rw [rowAt_same (W := W) (Below.heap_alloc W _ O (Nat.lt_of_lt_of_le hO hW.size)), hOW]; simp
    · exact (hwc.trans (hW.mono hwc.size)).alloc (Nat.le_trans hwc.size hW.size) _
  case round =>
    obtain ⟨pre, rest, i, d, s, rfl, hid, hs, hx, hJs, hst, hro, hB⟩ := hrel
    have HX := Aside0.mk hx
    have HST := Aside0.mk hst
    have HRO := Aside0.mk hro
    have HB := Aside0.mk hB
    have HI := Aside0.mk hid
    have HLEN := Aside0.mk hlen
    have hWw := Nat.le_trans hwc.size hW.size
    have hOw := Nat.lt_of_lt_of_le hO hW.size
    have HHL := Aside0.mk hL
    clear hst hro hB hx hid hlen v1 hL h0
    by_cases cl : i < l0.length
    · obtain ⟨d, rfl⟩ : ∃ q, d = q + 1 := ⟨d - 1, by have := HI.out; omega⟩
      have cb : decide (i < l0.length) = true := decide_eq_true cl
      have hi0 : (0 : Int) ≤ (i : Int) := by omega
      obtain ⟨ad, e, hx0⟩ := Kd.at_int (Kd.C_below hr0 HB.out) (i : Int) (by omega) (by omega)
      cases e
      simp only [Int.toNat_natCast] at hx0
      simp only [startsN] at hs
      replace hs := Option.bind_eq_some_iff.1 hs
      obtain ⟨b, hb1, hs⟩ := hs
      replace hs := Option.map_eq_some_iff.1 hs
      obtain ⟨q, hq, hs⟩ := hs
      have HQ := Aside0.mk hq
      have HB1 := Aside0.mk hb1
      have HS := Aside0.mk hs
      clear hq hb1 hs
      have k0 := cI HST.out 0 (v := .int .i64 s.1) rfl
      have k1 := cI HST.out 1 (v := .bool s.2.1) rfl
      have k2 := cI HST.out 2 (v := .bool s.2.2) rfl
      have hwl := blk_lt HST.out
      replace cl := eq_true cl
      have HWR : Aside0 (wrap64 ((i : Int) + 1) = ((i + 1 : Nat) : Int)) := ⟨by unfold wrap64; have := HLEN.out; have := HI.out; omega⟩
      cases b with
      | false =>
        gi_wp2_with (refine ⟨trivial, ?_⟩; gi_at_call 23; refine (callsIn_wide.2 (cluster_state_breaks.calls 40 s.1 s.2.1 s.2.2 (rd l0 i) false wr HB1.out)).mono ?_; rintro e w1 ⟨rfl, hb⟩)
        refine ⟨fun _ h => (by cases h), ?_⟩
        have HST2 := Aside0.mk (blk_below HST.out hb)
        have HJ2 := Aside0.mk (hJ _ _ _ hJs (.inl hb))
        have HRO2 : Aside0 (rowAt O w1 ≠ some W.heap.size) := ⟨by rw [rowAt_same (hb.block O (by have := hwl; omega))]; exact HRO.out⟩
        have HB2 := Aside0.mk (HB.out.trans (hb.mono HB.out.size))
        clear k0 k1 k2 hwl hb HST HB HRO hJs
        have k0 := cI HST2.out 0 (v := .int .i64 s.1) rfl
        have k1 := cI HST2.out 1 (v := .bool s.2.1) rfl
        have k2 := cI HST2.out 2 (v := .bool s.2.2) rfl
        have hwl := blk_lt HST2.out
        have HT := Aside0.mk (cluster_state_then.calls s.1 s.2.1 s.2.2 (rd l0 i) (thenF s (rd l0 i)).1 (thenF s (rd l0 i)).2.1 (thenF s (rd l0 i)).2.2 w1 (thenF_eq s (rd l0 i)))
        gi_wp2_with (refine ⟨trivial, ?_⟩; gi_at_call 24; refine (callsIn_wide.2 HT.out).mono ?_; rintro e w5 ⟨rfl, hb5⟩; have hst5 := blk_below HST2.out hb5; have m0 := cI hst5 0 (v := .int .i64 s.1) rfl; have m1 := cI hst5 1 (v := .bool s.2.1) rfl; have m2 := cI hst5 2 (v := .bool s.2.2) rfl; have f0 := bF hst5 0; have f1 := bF hst5 1; have f2 := bF hst5 2; have HB5 := Aside0.mk hb5; have HST5 := Aside0.mk hst5; clear hb5 hst5)
        go_roundw
        case rel =>
          obtain ⟨z1, z2, z3, z4⟩ := fin3 (thenF s (rd l0 i)) hJ (hJ _ _ _ HJ2.out (.inl HB5.out)) HST5.out hOw hWw (by rw [rowAt_same (HB5.out.block O (by omega))]; exact HRO2.out) (HB2.out.trans (HB5.out.mono HB2.out.size))
          exact ⟨pre, q, i + 1, d, thenF s (rd l0 i), by rw [HWR.out], by have := HI.out; omega, HQ.out, by rw [HX.out, ← HS.out]; simp, z1, z2, z3, z4⟩
        case measure =>
          rw [HWR.out]
          have := HI.out
          simp [intOf]
          omega
      | true =>
        gi_wp2_with (refine ⟨trivial, ?_⟩; gi_at_call 23; refine (callsIn_wide.2 (cluster_state_breaks.calls 40 s.1 s.2.1 s.2.2 (rd l0 i) true wr HB1.out)).mono ?_; rintro e w1 ⟨rfl, hb⟩; have HST1 := Aside0.mk (blk_below HST.out hb); have HRO1 : Aside0 (rowAt O w1 ≠ some W.heap.size) := ⟨by rw [rowAt_same (hb.block O (by have := hwl; omega))]; exact HRO.out⟩; have HB3 := Aside0.mk (HB.out.trans (hb.mono HB.out.size)); obtain ⟨fn, tmps, assign, body, hy, hR⟩ := hY pre (i : Int) w1 (hJ _ _ _ hJs (.inl hb)) (by rw [HX.out, ← HS.out]; simp); clear k0 k1 k2 hwl hb HST HB HRO hJs)
        refine hR.mono ?_
        rintro e W3 ⟨rfl, hJ3, hk3⟩
        have hz := hk3.keep W.heap.size _ HST1.out rfl (by omega) HRO1.out
        have HST2 := Aside0.mk hz.1
        have HRO2 := Aside0.mk hz.2
        have HJ2 := Aside0.mk hJ3
        have HB2 := Aside0.mk (HB3.out.trans hk3.bel)
        clear hz hJ3 hk3 hR hy HST1 HRO1 HB3
        have k0 := cI HST2.out 0 (v := .int .i64 s.1) rfl
        have k1 := cI HST2.out 1 (v := .bool s.2.1) rfl
        have k2 := cI HST2.out 2 (v := .bool s.2.2) rfl
        have hwl := blk_lt HST2.out
        have HT := Aside0.mk (cluster_state_then.calls s.1 s.2.1 s.2.2 (rd l0 i) (thenF s (rd l0 i)).1 (thenF s (rd l0 i)).2.1 (thenF s (rd l0 i)).2.2 W3 (thenF_eq s (rd l0 i)))
        gi_wp2_with (refine ⟨trivial, ?_⟩; gi_at_call 24; refine (callsIn_wide.2 HT.out).mono ?_; rintro e w5 ⟨rfl, hb5⟩; have hst5 := blk_below HST2.out hb5; have m0 := cI hst5 0 (v := .int .i64 s.1) rfl; have m1 := cI hst5 1 (v := .bool s.2.1) rfl; have m2 := cI hst5 2 (v := .bool s.2.2) rfl; have f0 := bF hst5 0; have f1 := bF hst5 1; have f2 := bF hst5 2; have HB5 := Aside0.mk hb5; have HST5 := Aside0.mk hst5; clear hb5 hst5)
        go_roundw
        case rel =>
          obtain ⟨z1, z2, z3, z4⟩ := fin3 (thenF s (rd l0 i)) hJ (hJ _ _ _ HJ2.out (.inl HB5.out)) HST5.out hOw hWw (by rw [rowAt_same (HB5.out.block O (by omega))]; exact HRO2.out) (HB2.out.trans (HB5.out.mono HB2.out.size))
          exact ⟨pre ++ [(i : Int)], q, i + 1, d, thenF s (rd l0 i), by rw [HWR.out], by have := HI.out; omega, HQ.out, by rw [HX.out, ← HS.out]; simp, z1, z2, z3, z4⟩
        case measure =>
          rw [HWR.out]
          have := HI.out
          simp [intOf]
          omega
    · have cb : decide (i < l0.length) = false := decide_eq_false cl
      obtain rfl : d = 0 := by have := HI.out; omega
      simp only [startsN, Option.some.injEq] at hs
      have HS := Aside0.mk hs
      clear hs
      gi_wp2
      go_end0
      exact ⟨⟨_, rfl⟩, pre, by rw [HX.out, ← HS.out]; simp, hJs⟩
theorem reps_int {w : World} {base : Nat} {ok : Nat → Prop} (L : List Int) : Reps ((Kd.int .i64).M w base ok) 1 L (L.map (Value.int .i64)) := by
  have gen : ∀ (b a : List Int), Reps ((Kd.int .i64).M w base ok) 1 a (a.map (Value.int .i64)) → Reps ((Kd.int .i64).M w base ok) 1 (a ++ b) ((a ++ b).map (Value.int .i64)) := by
    intro b
    induction b with
    | nil => intro a h; simpa using h
    | cons x b ih =>
      intro a h
      have h2 := ih (a ++ [x]) (by
        have := Reps.snoc (p := x) (c := [Value.int .i64 x]) h rfl rfl
        rw [List.map_append]
        exact this)
      simpa using h2
  simpa using gen L [] (Reps.none _ _)
theorem rowAt_box {O t : Nat} {W : World} {v : Value} (h : Boxed W O t v) : rowAt O W = v.ownBlock := by unfold rowAt; rw [h.cell]; rfl
/-- What is said of the row abides a step of the iterator's. -/
theorem holds_step {n₀ O t e size m : Nat} {w0 W A B : World} {ys : List Value} (hn : n₀ ≤ A.heap.size) (hs : StepW n₀ O W A B) (h : (∃ v, Boxed A O t v ∧ A.ownsRow n₀ e size v m ys) ∧ Below n₀ w0 A) : (∃ v, Boxed B O t v ∧ B.ownsRow n₀ e size v m ys) ∧ Below n₀ w0 B := by
  obtain ⟨⟨v, hv, hr⟩, hB⟩ := h
  rcases hs with hs | ⟨g, _, h2, h3, h4, _, hg⟩
  · exact ⟨⟨v, (hs.block O hv.lt).trans hv, pw_own_below hr hs⟩, hB.trans (hs.mono hn)⟩
  · rw [rowAt_box hv] at h4
    exact ⟨⟨v, hv.kept hg (fun e => h2 (by cases e; rfl)), hr.kept hg (.inr h4)⟩, hB.grown hg hn (fun k e => by cases e; exact h3)⟩
theorem KO.app {n₀ O t e size m : Nat} {W w2 : World} {v v' : Value} {ys : List Value} {tmp : Obj} (hv : Boxed W O t v) (hgrow : (W.alloc tmp).grownBy w2 v.ownBlock) (hv1 : Boxed w2 O t v) (hown' : w2.ownsRow n₀ e size v' m ys)
    (hblk : v'.ownBlock = v.ownBlock ∨ v'.ownBlock = some (W.alloc tmp).heap.size) (hb2 : Below n₀ W (w2.setCell ⟨O, 0, none⟩ v')) : KO n₀ O W (w2.setCell ⟨O, 0, none⟩ v') := by
  have r0 : rowAt O W = v.ownBlock := rowAt_box hv
  have r2 : rowAt O (w2.setCell ⟨O, 0, none⟩ v') = v'.ownBlock := rowAt_box (hv1.set v')
  refine ⟨hb2, fun k o hk hc hO hne => ?_⟩
  have hlt := (Array.getElem?_eq_some_iff.1 hk).1
  rw [r0] at hne
  refine ⟨?_, ?_⟩
  · rw [Below.heap_setCell w2 ⟨O, 0, none⟩ v' k hO, hgrow.block k (by simp; omega) (fun e => hne e.symm), Below.heap_alloc W tmp k hlt]
    exact hk
  · rw [r2]
    rcases hblk with h | h
    · rw [h]; exact hne
    · rw [h]; intro e; simp at e; omega
theorem startsN_len (l : List Int) : ∀ (d i : Nat) (s : Int × Bool × Bool) (q : List Int), startsN l d i s = some q → q.length ≤ d
  | 0, i, s, q, h => by simp [startsN] at h; subst h; simp
  | d + 1, i, s, q, h => by
    simp only [startsN] at h
    obtain ⟨b, _, h⟩ := Option.bind_eq_some_iff.1 h
    obtain ⟨q', h1, rfl⟩ := Option.map_eq_some_iff.1 h
    have := startsN_len l d (i + 1) _ q' h1
    split
    · simp; omega
    · omega
set_option maxHeartbeats 4000000 in
set_option maxRecDepth 100000 in
theorem cluster_Starts.calls (A0 : Option Addr) (c0 : Nat) (l0 : List Int) (r : List Int) (w : World) (hr0 : Kd.C (Kd.int .i64) w A0 l0.length l0) (hc0 : l0.length ≤ c0) (h : cluster_Starts.f l0 = some r) :
    Calls Try.prog 8 #[.slice A0 l0.length c0] w fun e w' => ∃ v0_ : Value, e = .returned (v0_) ∧ Kd.R (Kd.int .i64) 3 w' w.heap.size (fun _ => True) v0_ r ∧ Below w.heap.size w w' := by
  unfold cluster_Starts.f at h
  by_cases b0 : l0.length ≤ 1099511627776
  case neg => rw [if_neg b0] at h; cases h
  rw [if_pos b0] at h
  have hrl := startsN_len _ _ _ _ _ h
  refine (callsIn_wide (n := 6)).1 ?_
  refine callsIn_of_wp_marks Try.func8 rfl trivial ?_ rfl
  simp only [Try.ntmps8, List.size_toArray, List.length_cons, List.length_nil, Nat.reduceAdd, Nat.reduceSub, Array.replicate_succ, Array.replicate_zero, List.push_toArray, List.append_toArray, List.nil_append, List.cons_append]
  gi_wp2_with (refine ⟨trivial, ?_⟩; gi_at_call 15; refine (starts_in _ _ _ rfl).mono ?_; rintro e w2 ⟨rfl, rfl⟩)
  obtain ⟨i0, hi, hz0, hz1, hz2⟩ := info_parts info3'
  obtain ⟨W0, hW0⟩ : ∃ W0, ((w.alloc (.cells #[.slice none 0 0] 24)).alloc (.cells #[.slice A0 l0.length c0] 22)) = W0 := ⟨_, rfl⟩
  have bO : Boxed W0 w.heap.size 24 (.slice none 0 0) := by rw [← hW0]; exact (Boxed.new w 24 _).alloc _
  have x1 : Boxed W0 (w.heap.size + 1) 22 (.slice A0 l0.length c0) := by
    have := Boxed.new (w.alloc (.cells #[.slice none 0 0] 24)) 22 (.slice A0 l0.length c0)
    rw [← hW0]; simpa using this
  have hsz : W0.heap.size = w.heap.size + 2 := by rw [← hW0]; simp
  have hB0 : Below w.heap.size w W0 := by
    rw [← hW0]
    exact ((Below.refl _ w).alloc (Nat.le_refl _) _).alloc (by simp) _
  rw [hW0]
  clear hW0
  have hI : OwnFrom W0.heap.size (fun (pre : List Int) W => (∃ v, Boxed W w.heap.size 24 v ∧ W.ownsRow w.heap.size 3 1 v pre.length (pre.map (Value.int .i64)) ∧ True) ∧ Below w.heap.size w W) :=
    OwnFrom.and (Own.from (holdsRow_own w.heap.size w.heap.size 24 3 1 (fun (pre : List Int) => pre.length) (fun (pre : List Int) => pre.map (Value.int .i64)) (fun _ _ => True)) _) (ownFrom_below (Nat.le_refl _) (by omega))
  refine rangeFunc_W rfl (by omega) (gf := 22) (lb := #[.pointer (some ⟨w.heap.size + 1, 0, none⟩)]) rfl trivial (enters_of Try.func22 (by kernel_rfl) rfl)
    (starts_stops _ (by omega) w w.heap.size (w.heap.size + 1) A0 c0 l0 r h b0 W0 hB0 hr0 hc0 (by omega) (Nat.le_refl _) (by rw [rowAt_box bO]; rfl) x1 (by omega))
    KO.t (KO.b (by omega) (by omega)) (Below.refl _ _) (fun _ => rfl)
    (fun (pre : List Int) W => (∃ v, Boxed W w.heap.size 24 v ∧ W.ownsRow w.heap.size 3 1 v pre.length (pre.map (Value.int .i64)) ∧ True) ∧ Below w.heap.size w W)
    (fun s A l o o' hl ho hc hs => hI.putObj o' hs hl ho hc) (fun s A o hs => hI.alloc o hs)
    (fun W s A B hW hs hst => by
      obtain ⟨⟨v, hv, hr, _⟩, hB⟩ := hs
      obtain ⟨⟨v, hv, hr⟩, hB⟩ := holds_step (by exact hB.size) hst ⟨⟨v, hv, hr⟩, hB⟩
      exact ⟨⟨v, hv, hr, trivial⟩, hB⟩)
    (fun W A B hst k o hk ho hc => by
      rcases hst with hb | ⟨g, h1, _, _, _, ⟨o2, ho2, hc2⟩, hg⟩
      · exact (hb.block k (Array.getElem?_eq_some_iff.1 ho).1).trans ho
      · exact (hg.block k (Array.getElem?_eq_some_iff.1 ho).1 (fun e => by cases e; rw [ho] at ho2; cases ho2; rw [hc] at hc2; cases hc2)).trans ho)
    ⟨⟨_, bO, World.ownsRow_nil _ _ _ _, trivial⟩, hB0⟩
    (fun x => { tmps := #[.slice A0 l0.length c0, undef, .slice none 0 0, .pointer (some ⟨w.heap.size, 0, none⟩), .int .i64 x, .slice A0 l0.length c0, .func (.func 22) #[] #[.pointer (some ⟨w.heap.size + 1, 0, none⟩)], .int .i64 x, undef, undef, undef, undef, undef], defers := [] })
    ?assign ?body ?done
  case assign =>
    intro l x W K hK
    gi_wp2
    exact hK
  case body =>
    rintro l pre x W ⟨⟨v, hv, hrow, _⟩, hB⟩ hlt
    have hs := hB.size
    have hc := hv.cell
    gi_wp2_with (gi_at_builtin; refine wpListIn_append_own_at _ rfl _ _ 24 rfl w.heap.size 3 i0 (.int .i64 0) 1 8 Try.underlying24 hi hz0 hz1 hz2 rfl (by decide) _ _ _ rfl (hrow.alloc _) ⟨W.heap.size, 0, none⟩ 1 1 [.int .i64 x] rfl rfl (cell_one_new _ _ _) (by simp [Value.oneCell']) (by simp only [maxLen]; omega) (by omega) (by simp; omega) ?_; intro v' w2 hown' hgrow _ hblk; obtain ⟨g', cap', rfl⟩ := ownsRow_succ hown'; obtain ⟨hv1, hv2, hr2, hk2, hb2⟩ := hv.appended (by decide) hrow hs (Nat.le_refl _) hown' hgrow; have hko := KO.app hv hgrow hv1 hown' hblk hb2; have hc1 := hv1.cell; have hf1 := hv1.frozen)
    exact ⟨hk2.from _, hko, ⟨_, hv2, by simpa using hr2, trivial⟩, hB.trans hb2⟩
  case done =>
    rintro D ys W hD rfl ⟨⟨v, hv, hrow, _⟩, hB⟩ hK
    have hc := hv.cell
    have HK := Aside0.mk hK
    gi_wp2
    refine ⟨by simp, .inl ⟨_, _, rfl, run_takeDeferred HK.out, ?_⟩⟩
    exact ⟨_, results_tmp rfl _ _ _, v, rfl, ⟨fun _ _ => trivial, _, ownsRow_putObj hrow _ HK.out rfl, reps_int ys⟩, hB.trans (belowK_b (w := w) (Nat.le_refl _) W D _ _ (by omega) HK.out rfl rfl)⟩
end Go.Proofs.Ytignelhjipbnkaa.P
