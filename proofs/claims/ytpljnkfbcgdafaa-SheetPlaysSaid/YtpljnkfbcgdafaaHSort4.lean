/- slices.Sorted and slices.Compact at four sevens. -/
import Derived.Test.YtpljnkfbcgdafaaHVals
import Derived.Lib.SliceRun
import Derived.Test.YtpljnkfbcgdafaaP10
namespace Go.Proofs.Ytpljnkfbcgdafaa.P
open Go.RowKit Go.Shelf Go.Proofs.YtpljnkfbcgdafaaW.PrintWords Go.Proofs.YtpljnkfbcgdafaaW.PrintLast Go.Proofs.YtpljnkfbcgdafaaW.PrintMore
set_option linter.unusedVariables false
set_option linter.unusedSimpArgs false

set_option maxHeartbeats 2000000 in
set_option maxRecDepth 100000 in
theorem Len64_4 (w : World) : Calls Try.prog 51 #[.int .u64 4] w fun e w' => e = .returned (.int .i64 3) ∧ ∃ q, w' = w.drewN q := by
  go_enter Try.func51, Try.ntmps51
  go_wp2
  go_ret
  exact ⟨by kernel_rfl, 0, rfl⟩
set_option maxHeartbeats 2000000 in
set_option maxRecDepth 100000 in
theorem Len_4 (w : World) : Calls Try.prog 40 #[.int .u64 4] w fun e w' => e = .returned (.int .i64 3) ∧ ∃ q, w' = w.drewN q := by
  go_enter Try.func40, Try.ntmps40
  go_wp2_with (go_at_call 51; refine (Len64_4 _).mono ?_; rintro e w1 ⟨rfl, ⟨q, rfl⟩⟩)
  go_ret
  exact ⟨rfl, _, rfl⟩
theorem ins4 : slices_insertionSortOrdered_int.f 100 [7, 7, 7, 7] 0 4 = some [7, 7, 7, 7] := by decide +kernel
set_option maxHeartbeats 2000000 in
set_option maxRecDepth 100000 in
theorem pdq_4 (P0_ : Nat → Prop) (v : Value) (w0 w : World) (hB : Below w0.heap.size w0 w) (ho0 : Kd.R (Kd.int .i64) 3 w w0.heap.size P0_ v [7, 7, 7, 7]) :
    Calls Try.prog 39 #[v, .int .i64 0, .int .i64 4, .int .i64 3] w fun e w' => e = .returned (.tuple #[]) ∧ (∃ P1, Kd.R (Kd.int .i64) 3 w' w0.heap.size P1 v [7, 7, 7, 7]) ∧ Below w0.heap.size w0 w' := by
  go_enter Try.func39, Try.ntmps39
  go_wp2
  go_loopw [1, 2] (fun v1 v2 wr => v1 = .int .i64 0 ∧ v2 = .int .i64 4 ∧ wr = w) (fun _ _ _ => 0)
  case atStart => exact ⟨rfl, rfl, rfl⟩
  case round =>
    obtain ⟨rfl, rfl, rfl⟩ := hrel
    go_wp2_with (go_at_call 41; refine (slices_insertionSortOrdered_int.calls 100 P0_ v [7, 7, 7, 7] 0 4 [7, 7, 7, 7] w0 wr hB ho0 ins4).mono ?_; rintro e w1 ⟨rfl, hr, hb, _⟩)
    first | go_end0 | ((try simp only [Exit.inBlock, Exit.then]); refine bodyPost_ret (results_none rfl _ _ _) rfl ?_)
    exact ⟨rfl, ⟨_, hr⟩, hb⟩
set_option maxHeartbeats 2000000 in
set_option maxRecDepth 100000 in
theorem Sort_4 (P0_ : Nat → Prop) (v : Value) (w0 w : World) (hB : Below w0.heap.size w0 w) (ho0 : Kd.R (Kd.int .i64) 3 w w0.heap.size P0_ v [7, 7, 7, 7]) :
    Calls Try.prog 35 #[v] w fun e w' => e = .returned (.tuple #[]) ∧ (∃ P1, Kd.R (Kd.int .i64) 3 w' w0.heap.size P1 v [7, 7, 7, 7]) ∧ Below w0.heap.size w0 w' := by
  obtain ⟨A, c, rfl⟩ := Kd.R_slice ho0
  have HO := Aside0.mk ho0
  have HB := Aside0.mk hB
  clear ho0 hB
  go_enter Try.func35, Try.ntmps35
  go_wp2_with (first
    | (go_at_call 40; refine (Len_4 _).mono ?_; rintro e w1 ⟨rfl, ⟨q, rfl⟩⟩)
    | (go_at_call 39; refine (pdq_4 P0_ _ w0 _ (pw_below_drewN HB.out _) (Kd.R_drewN HO.out _)).mono ?_; rintro e w2 ⟨rfl, hr, hb⟩))
  go_end0
  exact ⟨rfl, hr, hb⟩
set_option maxHeartbeats 2000000 in
set_option maxRecDepth 100000 in
theorem Sorted_4 (Bn mb : Nat) (es : List Ent) (hes : es.length ≤ 1000000) (w : World) (hb : Boxed w Bn 50 (.map (some mb))) (ho : OwnE w mb es) (hall : ∀ done : List Ent, done.Perm es → valsE done = [7, 7, 7, 7]) :
    Calls Try.prog 26 #[.func (.func 36) #[] #[.pointer (some ⟨Bn, 0, none⟩)]] w fun e w' => ∃ v P1, e = .returned v ∧ Kd.R (Kd.int .i64) 3 w' w.heap.size P1 v [7, 7, 7, 7] ∧ Below w.heap.size w w' := by
  have HC := Aside0.mk (collect.calls Bn mb es hes w hb ho)
  have HALL := Aside0.mk hall
  clear hb ho hes hall
  go_enter Try.func26, Try.ntmps26
  go_wp2_with (first
    | (go_at_call 34; refine HC.out.mono ?_; rintro e w1 ⟨done, v, hp, rfl, hr, hb⟩; rw [HALL.out done hp] at hr; have HR := Aside0.mk hr; have HB := Aside0.mk hb; clear hr hb hp)
    | (go_at_call 35; refine (Sort_4 _ _ w _ HB.out HR.out).mono ?_; rintro e w2 ⟨rfl, ⟨P1, hr⟩, hb⟩))
  go_ret
  exact ⟨_, _, rfl, hr, hb⟩
set_option maxHeartbeats 2000000 in
set_option maxRecDepth 100000 in
theorem Compact_4 (P0_ : Nat → Prop) (v : Value) (w0 w : World) (hB : Below w0.heap.size w0 w) (ho0 : Kd.R (Kd.int .i64) 3 w w0.heap.size P0_ v [7, 7, 7, 7]) :
    Calls Try.prog 25 #[v] w fun e w' => (∃ A c, e = .returned (.slice A 1 c)) ∧ Below w0.heap.size w0 w' := by
  have ho1 := ho0
  obtain ⟨hok, cs, hown, hreps⟩ := ho1
  obtain ⟨hl, hn | ⟨g, c, cur, rfl, hbase, hheap, hnc, hcm, hcs, htake⟩⟩ := hown
  · exact absurd hn.2 (by simp)
  have HO := Aside0.mk ho0
  have HB := Aside0.mk hB
  have hgg : w0.heap.size ≤ g := hbase
  have HH := Aside0.mk hheap
  have hC := (Kd.R_reads' HO.out).2.2
  have hc4 : 4 ≤ c := (Kd.R_reads' HO.out).2.1
  obtain ⟨ad, e0, x0⟩ := Kd.at_int hC 0 (by omega) (by decide)
  obtain ⟨ad1, e1, x1⟩ := Kd.at_int hC 1 (by omega) (by decide)
  obtain ⟨ad2, e2, x2⟩ := Kd.at_int hC 2 (by omega) (by decide)
  obtain ⟨ad3, e3, x3⟩ := Kd.at_int hC 3 (by omega) (by decide)
  cases e0
  cases e1
  cases e2
  cases e3
  replace x0 : w.cell? ⟨g, 0, none⟩ = some (.int .i64 7) := x0
  replace x1 : w.cell? ⟨g, 1, none⟩ = some (.int .i64 7) := x1
  replace x2 : w.cell? ⟨g, 2, none⟩ = some (.int .i64 7) := x2
  replace x3 : w.cell? ⟨g, 3, none⟩ = some (.int .i64 7) := x3
  have f1 := bF HH.out 1
  have f2 := bF HH.out 2
  have f3 := bF HH.out 3
  clear ho0 hB hbase hheap hnc hcm hcs htake hl hok hreps hC
  go_enter Try.func25, Try.ntmps25
  go_wp2
  go_loopw [3] (fun p wr => p = .int .i64 1 ∧ wr = w) (fun _ _ => 0)
  case atStart => exact ⟨rfl, rfl⟩
  case round =>
    obtain ⟨rfl, rfl⟩ := hrel
    go_wp2
    go_quiet (fail)
    go_wp2
    go_loopw [3, 5] (fun v3 v5 ws => v3 = .int .i64 1 ∧ ∃ j q : Nat, v5 = .int .i64 (j : Int) ∧ (j = 1 ∨ j = 2 ∨ j = 3) ∧ ws = wr.drewN q) (fun _ v5 _ => 3 - (intOf v5).toNat)
    case atStart => exact ⟨rfl, 1, nq, rfl, .inl rfl, rfl⟩
    case round =>
      obtain ⟨rfl, j, q, rfl, hj, rfl⟩ := hrel
      rcases hj with rfl | rfl | rfl
      · go_wp2
        go_quiet (fail)
        go_wp2
        go_roundw
        case rel => exact ⟨rfl, 2, _, rfl, .inr (.inl rfl), rfl⟩
        case measure => simp [intOf]
      · go_wp2
        go_quiet (fail)
        go_wp2
        go_roundw
        case rel => exact ⟨rfl, 3, _, rfl, .inr (.inr rfl), rfl⟩
        case measure => simp [intOf]
      · have hclr := Lib.run_clear_slice (P := Try.prog) (wr.drewN q) 40 3 0 (.int .i64 0) Try.underlying40 zero3 rfl rfl g 1 3 (c - 1) (by omega)
          (fun j hj => by
            rcases (show j = 0 ∨ j = 1 ∨ j = 2 by omega) with rfl | rfl | rfl
            · show ((wr.drewN q).cell? ⟨g, 1, none⟩).isSome = true
              rw [show (wr.drewN q).cell? ⟨g, 1, none⟩ = wr.cell? ⟨g, 1, none⟩ from rfl, x1]; rfl
            · show ((wr.drewN q).cell? ⟨g, 2, none⟩).isSome = true
              rw [show (wr.drewN q).cell? ⟨g, 2, none⟩ = wr.cell? ⟨g, 2, none⟩ from rfl, x2]; rfl
            · show ((wr.drewN q).cell? ⟨g, 3, none⟩).isSome = true
              rw [show (wr.drewN q).cell? ⟨g, 3, none⟩ = wr.cell? ⟨g, 3, none⟩ from rfl, x3]; rfl)
          (fun j hj => bF (show (wr.drewN q).heap[g]? = some (.cells cur 3 (0, 0)) from HH.out) _)
        go_wp2
        go_ret
        exact ⟨⟨_, _, rfl⟩, (((pw_below_drewN HB.out q).setCell (p := ⟨g, 1, none⟩) hgg _).setCell (p := ⟨g, 2, none⟩) hgg _).setCell (p := ⟨g, 3, none⟩) hgg _⟩
set_option maxHeartbeats 2000000 in
set_option maxRecDepth 100000 in
theorem Owners_nil.calls (w : World) : Calls Try.prog 16 #[.pointer none] w fun e w' => e = .returned (.slice none 0 0) ∧ w' = w := by
  go_enter Try.func16, Try.ntmps16
  go_wp2
  go_ret
  exact ⟨rfl, rfl⟩
set_option maxHeartbeats 2000000 in
set_option maxRecDepth 100000 in
theorem Owners_4.calls (p mb : Nat) (W H : Int) (es : List Ent) (w : World) (h : Sh w p mb W H es) (hes : es.length ≤ 1000000) (hall : ∀ done : List Ent, done.Perm es → valsE done = [7, 7, 7, 7]) :
    Calls Try.prog 16 #[.pointer (some ⟨p, 0, none⟩)] w fun e w' => (∃ A c, e = .returned (.slice A 1 c)) ∧ Below w.heap.size w w' := by
  have hu52 := Try.underlying52
  have hc := h.c2
  have HS := Aside0.mk h
  have HE := Aside0.mk hes
  have HALL := Aside0.mk hall
  clear h hes hall
  go_enter Try.func16, Try.ntmps16
  go_wp2_with (first
    | (go_at_call 27; refine (values.calls mb _).mono ?_; rintro e w1 ⟨rfl, rfl⟩)
    | (go_at_call 26; refine (Sorted_4 w.heap.size mb es HE.out _ (Boxed.new w 50 _) (HS.out.own.kept (World.grownBy_alloc w _ none) (by simp)) HALL.out).mono ?_; rintro e w2 ⟨v, P1, rfl, hr, hb⟩; have HR := Aside0.mk hr; have HB := Aside0.mk hb; clear hr hb)
    | (go_at_call 25; refine (Compact_4 P1 v _ _ HB.out HR.out).mono ?_; rintro e w3 ⟨⟨A, c, rfl⟩, hb⟩; have HB3 := Aside0.mk hb; clear hb))
  go_ret
  exact ⟨⟨_, _, rfl⟩, below_step (below_alloc (Below.refl _ w) _) HB3.out⟩
end Go.Proofs.Ytpljnkfbcgdafaa.P
