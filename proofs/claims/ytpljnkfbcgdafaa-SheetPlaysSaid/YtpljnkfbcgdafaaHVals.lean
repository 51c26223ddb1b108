/- maps.Values, slices.AppendSeq, slices.Collect: a map's values, in whatever order, as a slice. -/
import Derived.Test.YtpljnkfbcgdafaaHSheet
import Derived.RangeFuncLeaves
import Derived.RangeFuncNested
import Derived.RangeFuncFrom
import Derived.RangeFuncBox
import Derived.WalkKit
import Derived.OwnWalkIn
import Derived.TacticsInMore
import Derived.LoopNIn
import Derived.LoopIn
import Derived.Maps.AppendAt
import Derived.Maps.OwnIn
namespace Go.Proofs.Ytpljnkfbcgdafaa.P
open Go.RowKit Go.Shelf Go.Proofs.YtpljnkfbcgdafaaW.PrintWords Go.Proofs.YtpljnkfbcgdafaaW.PrintLast Go.Proofs.YtpljnkfbcgdafaaW.PrintMore
set_option linter.unusedVariables false
set_option linter.unusedSimpArgs false
attribute [local go_sem] Oper.semAt_some

theorem RngE.walks {w w' : World} {b r : Nat} {es rest : List Ent} (h : RngE w b r es rest) (hk : KeepsWalks w w') : RngE w' b r es rest ∧ w'.rangeLeft b r = w.rangeLeft b r := by
  obtain ⟨D, left, cnt, h, hr⟩ := h
  have h' := h.of_walks hk
  exact ⟨⟨D, left, cnt, h', hr⟩, by rw [h.left_eq, h'.left_eq]⟩
theorem RngE.iter {w : World} {b r : Nat} {es rest : List Ent} (h : RngE w b r es rest) : ∃ o : Obj, w.heap[r]? = some o ∧ o.isWalk = true := by
  obtain ⟨D, left, cnt, h, hr⟩ := h
  exact h.iter_walk
def valsE (l : List Ent) : List Int := l.map (·.2)
theorem values_in (n : Nat) (mb : Nat) (w : World) :
    CallsIn Fence.wide n Try.prog 27 #[.map (some mb)] w fun e w' => e = .returned (.func (.func 36) #[] #[.pointer (some ⟨w.heap.size, 0, none⟩)]) ∧ w' = w.alloc (.cells #[.map (some mb)] 50) := by
  refine callsIn_of_wp Try.func27 rfl trivial ?_ rfl
  simp only [Try.ntmps27, List.size_toArray, List.length_cons, List.length_nil, Nat.reduceAdd, Nat.reduceSub, Array.replicate_succ, Array.replicate_zero, List.push_toArray, List.append_toArray, List.nil_append, List.cons_append]
  gi_wp2
  go_ret
  exact ⟨rfl, rfl⟩
set_option maxRecDepth 100000 in
set_option maxHeartbeats 4000000 in
theorem values_stops (n : Nat) (hn : 1 ≤ n) (Bn mb : Nat) (es : List Ent) (w : World) (hb : Boxed w Bn 50 (.map (some mb))) (ho : OwnE w mb es) :
    SeqStopsK Fence.wide n Try.prog 36 #[.pointer (some ⟨Bn, 0, none⟩)] (fun x : Int => #[Value.int .i64 x]) KeepsWalks (fun ys => ∃ done : List Ent, done.Perm es ∧ ys = valsE done) (fun _ => True) es.length w := fun l J Jx W hWw hJ hJx hY h0 => by
  refine callsIn_of_wp Try.func36 rfl trivial ?_ rfl
  simp only [Try.ntmps36, List.size_toArray, List.length_cons, List.length_nil, Nat.reduceAdd, Nat.reduceSub, Array.replicate_succ, Array.replicate_zero, List.push_toArray, List.append_toArray, List.nil_append, List.cons_append]
  have c0 : W.cell? ⟨Bn, 0, none⟩ = some (.map (some mb)) := (show Boxed W Bn 50 (.map (some mb)) from blk_below hb hWw).cell
  have hoW := ho.below hWw
  obtain ⟨w2, hrun, hrg, hg2, hsz2⟩ := hoW.range
  have hJ2 : J [] w2 := hJ _ _ _ none h0 hg2 (fun r e => by cases e)
  obtain ⟨R, hR⟩ : ∃ R, W.heap.size = R := ⟨_, rfl⟩
  rw [hR] at hrun hrg
  have HR2 := Aside0.mk hrg
  have HRe := Aside0.mk hR
  clear hrg hR hsz2 hg2 hb ho hoW hWw h0
  gi_wp2
  gi_loopw [4] (fun p wr => ∃ (done rest : List Ent), Aside0 ((done ++ rest).Perm es) ∧ Aside0 (RngE wr mb R es rest) ∧ J (valsE done) wr)
    (fun _ wr => wr.rangeLeft mb R)
  case atStart => exact ⟨[], es, ⟨List.Perm.refl _⟩, HR2, hJ2⟩
  case round =>
    obtain ⟨done, rest, HP, HR, hJd⟩ := hrel
    clear c0 hrun hJ2
    rcases HR.out.next 0 with ⟨hr0, hnx⟩ | ⟨e, r1, r2, w3, hrest, hees, hx, hy, ho, hnx, hrg3, hg3, hsz3, hen, hlt3⟩
    · have hperm : done.Perm es := by have := HP.out; rw [hr0, List.append_nil] at this; exact this
      have HPP := Aside0.mk hperm
      clear hperm hr0
      gi_wp2
      go_end0
      exact ⟨⟨_, rfl⟩, .inl ⟨_, ⟨done, HPP.out, rfl⟩, hJd⟩⟩
    · have hJ3 : J (valsE done) w3 := hJ _ _ _ (some R) hJd hg3 (fun r e => by cases e; exact ⟨Nat.le_of_eq HRe.out, HR.out.iter⟩)
      have HPP : Aside0 (((done ++ [e]) ++ (r1 ++ r2)).Perm es) := ⟨by
        refine List.Perm.trans ?_ HP.out
        rw [hrest, List.append_assoc]
        exact List.Perm.append_left _ (List.perm_middle (l₁ := r1)).symm⟩
      have hlen : (valsE done).length < es.length := by
        have := HPP.out.length_eq
        simp only [List.length_append, List.length_singleton] at this
        simp only [valsE, List.length_map]
        omega
      obtain ⟨fn, tmps, assign, body, hyy, hRR⟩ := hY (valsE done) e.2 w3 hJ3 hlen
      simp only [cv] at hnx hen
      have HR3 := Aside0.mk hrg3
      have HL3 := Aside0.mk hlt3
      clear hrest hees hrg3 hg3 hsz3 hlt3 hlen hJ3 hJd
      gi_wp2
      refine hRR.mono ?_
      rintro e5 W3 (⟨rfl, hJ4, hk3⟩ | ⟨rfl, hJx3⟩)
      · have HW := Aside0.mk (HR3.out.walks hk3)
        clear hyy hRR hnx hen
        gi_wp2
        go_roundw
        case rel => exact ⟨done ++ [e], r1 ++ r2, HPP, ⟨HW.out.1⟩, by simpa [valsE] using hJ4⟩
        case measure => rw [HW.out.2]; exact HL3.out
      · gi_wp2
        refine bodyPost_ret (results_none rfl _ _ _) rfl ?_
        exact ⟨⟨_, rfl⟩, .inr ⟨_, trivial, hJx3⟩⟩
theorem reps_int {w : World} {base : Nat} {ok : Nat → Prop} (L : List Int) : Reps ((Kd.int .i64).M w base ok) 1 L (L.map (Value.int .i64)) := by
  have gen : ∀ (b a : List Int), Reps ((Kd.int .i64).M w base ok) 1 a (a.map (Value.int .i64)) → Reps ((Kd.int .i64).M w base ok) 1 (a ++ b) ((a ++ b).map (Value.int .i64)) := by
    intro b
    induction b with
    | nil => intro a h; simpa using h
    | cons x b ih =>
      intro a h
      have h2 := ih (a ++ [x]) (by
        have := Reps.snoc (p := x) (c := [Value.int .i64 x]) h rfl rfl
        rw [List.map_append]
        exact this)
      simpa using h2
  simpa using gen L [] (Reps.none _ _)
theorem info3v : (Try.prog.info? 3).map (fun i => (i.zero, i.size, i.bytes)) = some (some (.int .i64 0), 1, 8) := by kernel_rfl
set_option maxRecDepth 100000 in
set_option maxHeartbeats 4000000 in
theorem appendSeq_in (Bn mb : Nat) (es : List Ent) (hes : es.length ≤ 1000000) (w : World) (hb : Boxed w Bn 50 (.map (some mb))) (ho : OwnE w mb es) :
    CallsIn Fence.wide 5 Try.prog 38 #[.slice none 0 0, .func (.func 36) #[] #[.pointer (some ⟨Bn, 0, none⟩)]] w fun e w' => ∃ (done : List Ent) (v : Value), done.Perm es ∧ e = .returned v ∧ Kd.R (Kd.int .i64) 3 w' w.heap.size (fun _ => True) v (valsE done) ∧ Below w.heap.size w w' := by
  refine callsIn_of_wp_marks Try.func38 rfl trivial ?_ rfl
  simp only [Try.ntmps38, List.size_toArray, List.length_cons, List.length_nil, Nat.reduceAdd, Nat.reduceSub, Array.replicate_succ, Array.replicate_zero, List.push_toArray, List.append_toArray, List.nil_append, List.cons_append]
  gi_wp2
  obtain ⟨i0, hi, hz0, hz1, hz2⟩ := info_parts info3v
  have bO := Boxed.new w 40 (.slice none 0 0)
  obtain ⟨W0, hW0⟩ : ∃ W0, w.alloc (.cells #[.slice none 0 0] 40) = W0 := ⟨_, rfl⟩
  have hsz : W0.heap.size = w.heap.size + 1 := by rw [← hW0, World.size_alloc]
  have hB0 : Below w.heap.size w W0 := by rw [← hW0]; exact below_alloc (Below.refl _ _) _
  rw [hW0] at bO
  rw [hW0]
  clear hW0
  have hI : OwnFrom W0.heap.size (fun (pre : List Int) W => (∃ v, Boxed W w.heap.size 40 v ∧ W.ownsRow w.heap.size 3 1 v pre.length (pre.map (Value.int .i64)) ∧ True) ∧ Below w.heap.size w W) :=
    OwnFrom.and (Own.from (holdsRow_own w.heap.size w.heap.size 40 3 1 (fun (pre : List Int) => pre.length) (fun (pre : List Int) => pre.map (Value.int .i64)) (fun _ _ => True)) _) (ownFrom_below (Nat.le_refl _) (by omega))
  refine wpIn_rangeFunc_ownF rfl (by omega) (gf := 36) (lb := #[.pointer (some ⟨Bn, 0, none⟩)]) rfl trivial (enters_of Try.func36 (by kernel_rfl) rfl)
    (values_stops _ (by omega) Bn mb es w hb ho) walksK_t walksK_b hB0 (fun _ => rfl)
    (fun pre W => (∃ v, Boxed W w.heap.size 40 v ∧ W.ownsRow w.heap.size 3 1 v pre.length (pre.map (Value.int .i64)) ∧ True) ∧ Below w.heap.size w W)
    (fun _ _ _ => False) hI (fun _ _ _ _ _ hs _ _ => hs)
    ⟨⟨_, bO, World.ownsRow_nil _ _ _ _, trivial⟩, hB0⟩
    (fun x => { tmps := #[.slice none 0 0, .func (.func 36) #[] #[.pointer (some ⟨Bn, 0, none⟩)], .pointer (some ⟨w.heap.size, 0, none⟩), undef, .slice none 0 0, .int .i64 x, .func (.func 36) #[] #[.pointer (some ⟨Bn, 0, none⟩)], .int .i64 x, undef, undef, undef, undef, undef], defers := [] })
    ?assign ?body ?done ?stop
  case assign =>
    intro l x W K hK
    gi_wp2
    exact hK
  case body =>
    rintro l pre x W ⟨⟨v, hv, hrow, _⟩, hB⟩ hlt
    have hs := hB.size
    have hc := hv.cell
    gi_wp2_with (gi_at_builtin; refine wpListIn_append_own_at _ rfl _ _ 40 rfl w.heap.size 3 i0 (.int .i64 0) 1 8 Try.underlying40 hi hz0 hz1 hz2 rfl (by decide) _ _ _ rfl (hrow.alloc _) ⟨W.heap.size, 0, none⟩ 1 1 [.int .i64 x] rfl rfl (cell_one_new _ _ _) (by simp [Value.oneCell']) (by simp only [maxLen]; omega) (by omega) (by simp; omega) ?_; intro v' w2 hown' hgrow _ hblk; obtain ⟨g', cap', rfl⟩ := ownsRow_succ hown'; obtain ⟨hv1, hv2, hr2, hk2, hb2⟩ := hv.appended (by decide) hrow hs (Nat.le_refl _) hown' hgrow; have hc1 := hv1.cell; have hf1 := hv1.frozen)
    exact ⟨hk2, hk2.walks, ⟨_, hv2, by simpa using hr2, trivial⟩, hB.trans hb2⟩
  case done =>
    rintro D ys W hD ⟨done, hperm, rfl⟩ ⟨⟨v, hv, hrow, _⟩, hB⟩ hK
    have hc := hv.cell
    have HK := Aside0.mk hK
    gi_wp2
    refine ⟨by simp, .inl ⟨_, _, rfl, run_takeDeferred HK.out, ?_⟩⟩
    exact ⟨_, results_tmp rfl _ _ _, done, v, hperm, rfl, ⟨fun _ _ => trivial, _, ownsRow_putObj hrow _ HK.out rfl, reps_int _⟩, hB.trans (belowK_b (w := w) (Nat.le_refl _) W D _ _ (by omega) HK.out rfl rfl)⟩
  case stop =>
    rintro D c pre W _ _ h _
    exact h.elim
set_option maxRecDepth 100000 in
set_option maxHeartbeats 4000000 in
theorem collect_in (Bn mb : Nat) (es : List Ent) (hes : es.length ≤ 1000000) (w : World) (hb : Boxed w Bn 50 (.map (some mb))) (ho : OwnE w mb es) :
    CallsIn Fence.wide 6 Try.prog 34 #[.func (.func 36) #[] #[.pointer (some ⟨Bn, 0, none⟩)]] w fun e w' => ∃ (done : List Ent) (v : Value), done.Perm es ∧ e = .returned v ∧ Kd.R (Kd.int .i64) 3 w' w.heap.size (fun _ => True) v (valsE done) ∧ Below w.heap.size w w' := by
  refine callsIn_of_wp Try.func34 rfl trivial ?_ rfl
  simp only [Try.ntmps34, List.size_toArray, List.length_cons, List.length_nil, Nat.reduceAdd, Nat.reduceSub, Array.replicate_succ, Array.replicate_zero, List.push_toArray, List.append_toArray, List.nil_append, List.cons_append]
  gi_wp2_with (refine ⟨trivial, ?_⟩; gi_at_call 38; refine (appendSeq_in Bn mb es hes _ hb ho).mono ?_; rintro e w2 ⟨done, v, hp, rfl, hr, hbb⟩)
  go_ret
  exact ⟨done, v, hp, rfl, hr, hbb⟩
theorem collect.calls (Bn mb : Nat) (es : List Ent) (hes : es.length ≤ 1000000) (w : World) (hb : Boxed w Bn 50 (.map (some mb))) (ho : OwnE w mb es) :
    Calls Try.prog 34 #[.func (.func 36) #[] #[.pointer (some ⟨Bn, 0, none⟩)]] w fun e w' => ∃ (done : List Ent) (v : Value), done.Perm es ∧ e = .returned v ∧ Kd.R (Kd.int .i64) 3 w' w.heap.size (fun _ => True) v (valsE done) ∧ Below w.heap.size w w' :=
  (callsIn_wide (n := 6)).1 (collect_in Bn mb es hes w hb ho)
theorem values.calls (mb : Nat) (w : World) :
    Calls Try.prog 27 #[.map (some mb)] w fun e w' => e = .returned (.func (.func 36) #[] #[.pointer (some ⟨w.heap.size, 0, none⟩)]) ∧ w' = w.alloc (.cells #[.map (some mb)] 50) :=
  (callsIn_wide (n := 6)).1 (values_in 6 mb w)
end Go.Proofs.Ytpljnkfbcgdafaa.P
