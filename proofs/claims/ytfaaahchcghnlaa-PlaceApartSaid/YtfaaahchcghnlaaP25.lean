/- Written by wip/tools/gprint.py of this repo over the translation: Lean functions that answer as the Go functions named below do, and the proof of it; the conditions stand in each theorem. -/
import Derived.Test.YtfaaahchcghnlaaP0
import Derived.Test.YtfaaahchcghnlaaP14
import Derived.Test.YtfaaahchcghnlaaP18
import Derived.Test.YtfaaahchcghnlaaHPlace
namespace Go.Proofs.Ytfaaahchcghnlaa.P
open Go.RowKit Go.Proofs.YtfaaahchcghnlaaW.PrintWords Go.Proofs.YtfaaahchcghnlaaW.PrintLast Go.Proofs.YtfaaahchcghnlaaW.PrintMore
attribute [local go_sem] max2_int min2_int max_two min_two max_three min_three max_four min_four   -- for this text's walks alone
set_option linter.unusedVariables false
set_option linter.unusedSimpArgs false

/-! ### frisketlaw19_PlaceApart: function 6 -/
def frisketlaw19_PlaceApart.j0 : Nat → Bool → Int → Int → Int → Int → Bool → Int → Int → Int → Int → Bool → Int → Int → Int → Int → Int → Int → Int → Int → Option (Bool)
 | 0, _, _, _, _, _, _, _, _, _, _, _, _, _, _, _, _, _, _, _ => none
 | k + 1, x42, x276000, x276001, x276002, x276003, x276004, x277000, x277001, x277002, x277003, x277004, x288000, x288001, x288002, x288003, x299000, x299001, x299002, x299003 => if x42 = true then ((frisketlaw19_alive.f).bind fun t299 => (some t299)) else (if (wrap64 (x276000 + x276001)) ≤ x277000 then (if (wrap64 (x276002 + x276003)) ≤ x277002 then (if (wrap64 (x288000 + x288002)) ≤ x299000 then ((frisketlaw19_alive.f).bind fun t300 => (if t300 = true then (some (true == true)) else (some false))) else (if (wrap64 (x299000 + x299002)) ≤ x288000 then ((frisketlaw19_alive.f).bind fun t301 => (if t301 = true then (some (true == true)) else (some false))) else (if (wrap64 (x288001 + x288003)) ≤ x299001 then ((frisketlaw19_alive.f).bind fun t302 => (if t302 = true then (some (true == true)) else (some false))) else ((frisketlaw19_alive.f).bind fun t303 => (if t303 = true then (some ((decide ((wrap64 (x299001 + x299003)) ≤ x288001)) == true)) else (some false)))))) else (if (wrap64 (x288000 + x288002)) ≤ x299000 then ((frisketlaw19_alive.f).bind fun t304 => (if t304 = true then (some (true == true)) else (some false))) else (if (wrap64 (x299000 + x299002)) ≤ x288000 then ((frisketlaw19_alive.f).bind fun t305 => (if t305 = true then (some (true == true)) else (some false))) else (if (wrap64 (x288001 + x288003)) ≤ x299001 then ((frisketlaw19_alive.f).bind fun t306 => (if t306 = true then (some (true == true)) else (some false))) else ((frisketlaw19_alive.f).bind fun t307 => (if t307 = true then (some ((decide ((wrap64 (x299001 + x299003)) ≤ x288001)) == true)) else (some false))))))) else (if (wrap64 (x276002 + x276003)) ≤ x277002 then (if (wrap64 (x288000 + x288002)) ≤ x299000 then ((frisketlaw19_alive.f).bind fun t308 => (if t308 = true then (if (wrap64 (x277000 + x277001)) ≤ x276000 then (some (true == true)) else (some (true == true))) else (some false))) else (if (wrap64 (x299000 + x299002)) ≤ x288000 then ((frisketlaw19_alive.f).bind fun t309 => (if t309 = true then (if (wrap64 (x277000 + x277001)) ≤ x276000 then (some (true == true)) else (some (true == true))) else (some false))) else (if (wrap64 (x288001 + x288003)) ≤ x299001 then ((frisketlaw19_alive.f).bind fun t310 => (if t310 = true then (if (wrap64 (x277000 + x277001)) ≤ x276000 then (some (true == true)) else (some (true == true))) else (some false))) else ((frisketlaw19_alive.f).bind fun t311 => (if t311 = true then (if (wrap64 (x277000 + x277001)) ≤ x276000 then (some ((decide ((wrap64 (x299001 + x299003)) ≤ x288001)) == true)) else (some ((decide ((wrap64 (x299001 + x299003)) ≤ x288001)) == true))) else (some false)))))) else (if (wrap64 (x288000 + x288002)) ≤ x299000 then ((frisketlaw19_alive.f).bind fun t312 => (if t312 = true then (if (wrap64 (x277000 + x277001)) ≤ x276000 then (some (true == true)) else (some (true == (decide ((wrap64 (x277002 + x277003)) ≤ x276002))))) else (some false))) else (if (wrap64 (x299000 + x299002)) ≤ x288000 then ((frisketlaw19_alive.f).bind fun t313 => (if t313 = true then (if (wrap64 (x277000 + x277001)) ≤ x276000 then (some (true == true)) else (some (true == (decide ((wrap64 (x277002 + x277003)) ≤ x276002))))) else (some false))) else (if (wrap64 (x288001 + x288003)) ≤ x299001 then ((frisketlaw19_alive.f).bind fun t314 => (if t314 = true then (if (wrap64 (x277000 + x277001)) ≤ x276000 then (some (true == true)) else (some (true == (decide ((wrap64 (x277002 + x277003)) ≤ x276002))))) else (some false))) else ((frisketlaw19_alive.f).bind fun t315 => (if t315 = true then (if (wrap64 (x277000 + x277001)) ≤ x276000 then (some ((decide ((wrap64 (x299001 + x299003)) ≤ x288001)) == true)) else (some ((decide ((wrap64 (x299001 + x299003)) ≤ x288001)) == (decide ((wrap64 (x277002 + x277003)) ≤ x276002))))) else (some false))))))))
def frisketlaw19_PlaceApart.f (k : Nat) (a0_0 : Int) (a0_1 : Int) (a0_2 : Int) (a1_0 : Int) (a1_1 : Int) (a1_2 : Int) (a1_3 : Int) (a1_4 : Bool) (a2_0 : Int) (a2_1 : Int) (a2_2 : Int) (a2_3 : Int) (a2_4 : Bool) : Option (Bool) := (frisketlaw19_box.f a1_0 a1_1 a1_2 a1_3 a1_4).bind fun bt277 => ((place_Cells.f a0_0 a0_1 a0_2 bt277.1 bt277.2.1 bt277.2.2.1 bt277.2.2.2.1 bt277.2.2.2.2).bind fun bt282 => ((frisketlaw19_box.f a2_0 a2_1 a2_2 a2_3 a1_4).bind fun bt288 => ((place_Cells.f a0_0 a0_1 a0_2 bt288.1 bt288.2.1 bt288.2.2.1 bt288.2.2.2.1 bt288.2.2.2.2).bind fun bt293 => (if bt282.2.2.2.2 = 0 then (frisketlaw19_PlaceApart.j0 k (bt293.2.2.2.2 != 0) a1_0 a1_1 a1_2 a1_3 a1_4 a2_0 a2_1 a2_2 a2_3 a1_4 bt282.1 bt282.2.1 bt282.2.2.1 bt282.2.2.2.1 bt293.1 bt293.2.1 bt293.2.2.1 bt293.2.2.2.1) else (frisketlaw19_PlaceApart.j0 k true a1_0 a1_1 a1_2 a1_3 a1_4 a2_0 a2_1 a2_2 a2_3 a1_4 bt282.1 bt282.2.1 bt282.2.2.1 bt282.2.2.2.1 bt293.1 bt293.2.1 bt293.2.2.1 bt293.2.2.2.1)))))
theorem frisketlaw19_PlaceApart.mono_l : ∀ k, (∀ y0 y1 y2 y3 y4 y5 y6 y7 y8 y9 y10 y11 y12 y13 y14 y15 y16 y17 y18, LeO (frisketlaw19_PlaceApart.j0 k y0 y1 y2 y3 y4 y5 y6 y7 y8 y9 y10 y11 y12 y13 y14 y15 y16 y17 y18) (frisketlaw19_PlaceApart.j0 (k + 1) y0 y1 y2 y3 y4 y5 y6 y7 y8 y9 y10 y11 y12 y13 y14 y15 y16 y17 y18))
 | 0 => fun _ _ _ _ _ _ _ _ _ _ _ _ _ _ _ _ _ _ _ r h => by simp [frisketlaw19_PlaceApart.j0] at h
 | k + 1 => by
  have ih0 := frisketlaw19_PlaceApart.mono_l k
  ·intro y0 y1 y2 y3 y4 y5 y6 y7 y8 y9 y10 y11 y12 y13 y14 y15 y16 y17 y18
   unfold frisketlaw19_PlaceApart.j0
   repeat' first
   | (with_reducible exact ih0 _ _ _ _ _ _ _ _ _ _ _ _ _ _ _ _ _ _ _)
   | (with_reducible exact LeO.refl _)
   | (with_reducible exact LeO.none _)
   | (with_reducible refine LeO.ite ?_ ?_)
   | (with_reducible refine LeO.bind ?_ (fun _ => ?_))
   | exact ih0 _ _ _ _ _ _ _ _ _ _ _ _ _ _ _ _ _ _ _
   | exact LeO.none _
   | refine LeO.ite ?_ ?_
   | refine LeO.bind ?_ (fun _ => ?_)
theorem frisketlaw19_PlaceApart.mono : ∀ a0 a1 a2 a3 a4 a5 a6 a7 a8 a9 a10 a11 a12 k, LeO (frisketlaw19_PlaceApart.f k a0 a1 a2 a3 a4 a5 a6 a7 a8 a9 a10 a11 a12) (frisketlaw19_PlaceApart.f (k + 1) a0 a1 a2 a3 a4 a5 a6 a7 a8 a9 a10 a11 a12) := by
 intro a0 a1 a2 a3 a4 a5 a6 a7 a8 a9 a10 a11 a12 k
 have ih0 := frisketlaw19_PlaceApart.mono_l k
 unfold frisketlaw19_PlaceApart.f
 repeat' first
   | (with_reducible exact ih0 _ _ _ _ _ _ _ _ _ _ _ _ _ _ _ _ _ _ _)
   | (with_reducible exact LeO.refl _)
   | (with_reducible exact LeO.none _)
   | (with_reducible refine LeO.ite ?_ ?_)
   | (with_reducible refine LeO.bind ?_ (fun _ => ?_))
   | exact ih0 _ _ _ _ _ _ _ _ _ _ _ _ _ _ _ _ _ _ _
   | exact LeO.none _
   | refine LeO.ite ?_ ?_
   | refine LeO.bind ?_ (fun _ => ?_)
def frisketlaw19_PlaceApart.T2 : Bool × List (List Nat × List Nat) := (true, [([], []), ([0], [0]), ([], []), ([2], [2]), ([], []), ([4], [4]), ([1, 3, 5, 5], [1, 3, 5]), ([6], [6]), ([7], [7]), ([7], [7]), ([], []), ([10, 8, 6, 0, 1, 2, 3, 4, 5, 6, 7, 8, 10], [8, 10]), ([9, 11, 0, 1, 2, 3, 4, 5, 6, 7, 8, 9, 10, 11], [9])])
def frisketlaw19_PlaceApart.B2 : List Nat := [0, 1, 0, 4, 0, 16, 63, 127, 255, 255, 0, 1535, 4095]
theorem frisketlaw19_PlaceApart.tab2 : rtab .any (opsOf Try.f6 2) = frisketlaw19_PlaceApart.T2 := by kernel_rfl
theorem frisketlaw19_PlaceApart.bits2 : waitsOk frisketlaw19_PlaceApart.T2.2 frisketlaw19_PlaceApart.B2 = true := by kernel_rfl
def frisketlaw19_PlaceApart.T3 : Bool × List (List Nat × List Nat) := (true, [([], []), ([0], [0]), ([], []), ([2], [2]), ([], []), ([4], [4]), ([1, 3, 5, 5], [1, 3, 5]), ([6], [6]), ([7], [7]), ([7], [7]), ([], []), ([10, 8, 6, 0, 1, 2, 3, 4, 5, 6, 7, 8, 10], [8, 10]), ([9, 11, 0, 1, 2, 3, 4, 5, 6, 7, 8, 9, 10, 11], [9])])
def frisketlaw19_PlaceApart.B3 : List Nat := [0, 1, 0, 4, 0, 16, 63, 127, 255, 255, 0, 1535, 4095]
theorem frisketlaw19_PlaceApart.tab3 : rtab .any (opsOf Try.f6 3) = frisketlaw19_PlaceApart.T3 := by kernel_rfl
theorem frisketlaw19_PlaceApart.bits3 : waitsOk frisketlaw19_PlaceApart.T3.2 frisketlaw19_PlaceApart.B3 = true := by kernel_rfl
set_option maxHeartbeats 8000000 in
set_option maxRecDepth 100000 in
theorem frisketlaw19_PlaceApart.calls (k : Nat) (a0_0 : Int) (a0_1 : Int) (a0_2 : Int) (a1_0 : Int) (a1_1 : Int) (a1_2 : Int) (a1_3 : Int) (a1_4 : Bool) (a2_0 : Int) (a2_1 : Int) (a2_2 : Int) (a2_3 : Int) (a2_4 : Bool) (r : Bool) (w : World) (hrt : r = true) (h : frisketlaw19_PlaceApart.f k a0_0 a0_1 a0_2 a1_0 a1_1 a1_2 a1_3 a1_4 a2_0 a2_1 a2_2 a2_3 a2_4 = some r) :
  Calls Try.prog 6 #[.agg #[.int .i64 a0_0, .int .i64 a0_1, .int .i64 a0_2], .agg #[.int .i64 a1_0, .int .i64 a1_1, .int .i64 a1_2, .int .i64 a1_3, .bool a1_4], .agg #[.int .i64 a2_0, .int .i64 a2_1, .int .i64 a2_2, .int .i64 a2_3, .bool a2_4]] w fun e w' => e = .returned (.bool r) ∧ Below w.heap.size w w' := by
 have hu26 := Try.underlying26
 have hu28 := Try.underlying28
 have hu23 := Try.underlying23
 have hu33 := Try.underlying33
 have HB := Aside0.mk (Below.refl w.heap.size w)
 have HRT := Aside0.mk hrt
 clear hrt
 have H : ((frisketlaw19_box.f a1_0 a1_1 a1_2 a1_3 a1_4).bind fun bt277 => ((place_Cells.f a0_0 a0_1 a0_2 bt277.1 bt277.2.1 bt277.2.2.1 bt277.2.2.2.1 bt277.2.2.2.2).bind fun bt282 => ((frisketlaw19_box.f a2_0 a2_1 a2_2 a2_3 a1_4).bind fun bt288 => ((place_Cells.f a0_0 a0_1 a0_2 bt288.1 bt288.2.1 bt288.2.2.1 bt288.2.2.2.1 bt288.2.2.2.2).bind fun bt293 => (if bt282.2.2.2.2 = 0 then (frisketlaw19_PlaceApart.j0 k (bt293.2.2.2.2 != 0) a1_0 a1_1 a1_2 a1_3 a1_4 a2_0 a2_1 a2_2 a2_3 a1_4 bt282.1 bt282.2.1 bt282.2.2.1 bt282.2.2.2.1 bt293.1 bt293.2.1 bt293.2.2.1 bt293.2.2.2.1) else (frisketlaw19_PlaceApart.j0 k true a1_0 a1_1 a1_2 a1_3 a1_4 a2_0 a2_1 a2_2 a2_3 a1_4 bt282.1 bt282.2.1 bt282.2.2.1 bt282.2.2.2.1 bt293.1 bt293.2.1 bt293.2.2.1 bt293.2.2.2.1)))))) = some r := h
 clear h
 replace H := Option.bind_eq_some_iff.mp H
 obtain ⟨⟨t277, t278, t279, t280, t281⟩, A40, H⟩ := H
 replace H : ((place_Cells.f a0_0 a0_1 a0_2 t277 t278 t279 t280 t281).bind fun bt282 => ((frisketlaw19_box.f a2_0 a2_1 a2_2 a2_3 a1_4).bind fun bt288 => ((place_Cells.f a0_0 a0_1 a0_2 bt288.1 bt288.2.1 bt288.2.2.1 bt288.2.2.2.1 bt288.2.2.2.2).bind fun bt293 => (if bt282.2.2.2.2 = 0 then (frisketlaw19_PlaceApart.j0 k (bt293.2.2.2.2 != 0) a1_0 a1_1 a1_2 a1_3 a1_4 a2_0 a2_1 a2_2 a2_3 a1_4 bt282.1 bt282.2.1 bt282.2.2.1 bt282.2.2.2.1 bt293.1 bt293.2.1 bt293.2.2.1 bt293.2.2.2.1) else (frisketlaw19_PlaceApart.j0 k true a1_0 a1_1 a1_2 a1_3 a1_4 a2_0 a2_1 a2_2 a2_3 a1_4 bt282.1 bt282.2.1 bt282.2.2.1 bt282.2.2.2.1 bt293.1 bt293.2.1 bt293.2.2.1 bt293.2.2.2.1))))) = some r := H
 have A4 := Aside0.mk A40
 clear A40
 replace H := Option.bind_eq_some_iff.mp H
 obtain ⟨⟨t282, t283, t284, t285, t286⟩, A50, H⟩ := H
 replace H : ((frisketlaw19_box.f a2_0 a2_1 a2_2 a2_3 a1_4).bind fun bt288 => ((place_Cells.f a0_0 a0_1 a0_2 bt288.1 bt288.2.1 bt288.2.2.1 bt288.2.2.2.1 bt288.2.2.2.2).bind fun bt293 => (if t286 = 0 then (frisketlaw19_PlaceApart.j0 k (bt293.2.2.2.2 != 0) a1_0 a1_1 a1_2 a1_3 a1_4 a2_0 a2_1 a2_2 a2_3 a1_4 t282 t283 t284 t285 bt293.1 bt293.2.1 bt293.2.2.1 bt293.2.2.2.1) else (frisketlaw19_PlaceApart.j0 k true a1_0 a1_1 a1_2 a1_3 a1_4 a2_0 a2_1 a2_2 a2_3 a1_4 t282 t283 t284 t285 bt293.1 bt293.2.1 bt293.2.2.1 bt293.2.2.2.1)))) = some r := H
 have A5 := Aside0.mk A50
 clear A50
 replace H := Option.bind_eq_some_iff.mp H
 obtain ⟨⟨t288, t289, t290, t291, t292⟩, A60, H⟩ := H
 replace H : ((place_Cells.f a0_0 a0_1 a0_2 t288 t289 t290 t291 t292).bind fun bt293 => (if t286 = 0 then (frisketlaw19_PlaceApart.j0 k (bt293.2.2.2.2 != 0) a1_0 a1_1 a1_2 a1_3 a1_4 a2_0 a2_1 a2_2 a2_3 a1_4 t282 t283 t284 t285 bt293.1 bt293.2.1 bt293.2.2.1 bt293.2.2.2.1) else (frisketlaw19_PlaceApart.j0 k true a1_0 a1_1 a1_2 a1_3 a1_4 a2_0 a2_1 a2_2 a2_3 a1_4 t282 t283 t284 t285 bt293.1 bt293.2.1 bt293.2.2.1 bt293.2.2.2.1))) = some r := H
 have A6 := Aside0.mk A60
 clear A60
 replace H := Option.bind_eq_some_iff.mp H
 obtain ⟨⟨t293, t294, t295, t296, t297⟩, A70, H⟩ := H
 replace H : (if t286 = 0 then (frisketlaw19_PlaceApart.j0 k (t297 != 0) a1_0 a1_1 a1_2 a1_3 a1_4 a2_0 a2_1 a2_2 a2_3 a1_4 t282 t283 t284 t285 t293 t294 t295 t296) else (frisketlaw19_PlaceApart.j0 k true a1_0 a1_1 a1_2 a1_3 a1_4 a2_0 a2_1 a2_2 a2_3 a1_4 t282 t283 t284 t285 t293 t294 t295 t296)) = some r := H
 have A7 := Aside0.mk A70
 clear A70
 have HC8 := Aside0.mk H
 clear H
 go_enter Try.func6, Try.ntmps6
 try go_wp2_with (first | ((with_reducible refine gate_dst (N := 3) rfl ?_); refine box_event ?hg (N := 3) ?hd (cs := #[.int .i64 a0_0, .int .i64 a0_1, .int .i64 a0_2]) (t := 26) ?hr ?_; (case hd => rfl); (case hg => rfl); (case hr => first | (go_simp; done) | (go_simp; rfl)); intro gb274 hg w9 hbox hb; have n0_ := Aside0.mk (below_step (by repeat (first | (with_reducible first | exact HB.out | apply below_alloc | apply pw_below_drewN | apply below_drew1) | exact HB.out)) hb); have n1_ := Aside0.mk (hbox); have n2_ := Aside0.mk ((by rw [hg]; exact (below_size (by repeat (first | (with_reducible first | exact HB.out | apply below_alloc | apply pw_below_drewN | apply below_drew1) | exact HB.out))) : w.heap.size ≤ gb274)); have n3_ := Aside0.mk ((by rw [hg]; exact (below_size (by repeat (first | (with_reducible first | exact HB.out | apply below_alloc | apply pw_below_drewN | apply below_drew1) | exact HB.out))) : w.heap.size ≤ gb274)); clear HB; have HB := n0_; have BK274 := n1_; have GW274 := n2_; have GE274 := n3_; clear n0_ n1_ n2_ n3_; clear hb hbox hg) | ((with_reducible refine gate_dst (N := 4) rfl ?_); refine box_event ?hg (N := 4) ?hd (cs := #[.int .i64 a1_0, .int .i64 a1_1, .int .i64 a1_2, .int .i64 a1_3, .bool a1_4]) (t := 28) ?hr ?_; (case hd => rfl); (case hg => rfl); (case hr => first | (go_simp; done) | (go_simp; rfl)); intro gb275 hg w10 hbox hb; have n0_ := Aside0.mk (blk_below (g := gb274) (o := .cells #[.int .i64 a0_0, .int .i64 a0_1, .int .i64 a0_2] 26 (0, 0)) (by (with_reducible repeat (first | refine bN ?_ _ | refine bD ?_ | refine bA ?_ _)); exact BK274.out) hb); have n1_ := Aside0.mk (below_step (by repeat (first | (with_reducible first | exact HB.out | apply below_alloc | apply pw_below_drewN | apply below_drew1 | refine bS ?_ GE274.out) | exact HB.out)) hb); have n2_ := Aside0.mk (hbox); have n3_ := Aside0.mk ((by rw [hg]; exact (below_size (by repeat (first | (with_reducible first | exact HB.out | apply below_alloc | apply pw_below_drewN | apply below_drew1 | refine bS ?_ GE274.out) | exact HB.out))) : w.heap.size ≤ gb275)); have n4_ := Aside0.mk ((by rw [hg]; exact (below_size (by repeat (first | (with_reducible first | exact HB.out | apply below_alloc | apply pw_below_drewN | apply below_drew1 | refine bS ?_ GE274.out) | exact HB.out))) : w.heap.size ≤ gb275)); have n5_ := Aside0.mk ((by rw [hg]; exact Nat.ne_of_lt (blk_lt (g := gb274) (o := .cells #[.int .i64 a0_0, .int .i64 a0_1, .int .i64 a0_2] 26 (0, 0)) (by (with_reducible repeat (first | refine bN ?_ _ | refine bD ?_ | refine bA ?_ _)); exact BK274.out)) : gb274 ≠ gb275)); have n6_ := Aside0.mk ((by rw [hg]; exact Nat.ne_of_gt (blk_lt (g := gb274) (o := .cells #[.int .i64 a0_0, .int .i64 a0_1, .int .i64 a0_2] 26 (0, 0)) (by (with_reducible repeat (first | refine bN ?_ _ | refine bD ?_ | refine bA ?_ _)); exact BK274.out)) : gb275 ≠ gb274)); clear BK274; clear HB; have BK274 := n0_; have HB := n1_; have BK275 := n2_; have GW275 := n3_; have GE275 := n4_; have NB274_275 := n5_; have NB275_274 := n6_; clear n0_ n1_ n2_ n3_ n4_ n5_ n6_; clear hb hbox hg) | ((with_reducible refine gate_dst (N := 5) rfl ?_); refine box_event ?hg (N := 5) ?hd (cs := #[.int .i64 a2_0, .int .i64 a2_1, .int .i64 a2_2, .int .i64 a2_3, .bool a2_4]) (t := 28) ?hr ?_; (case hd => rfl); (case hg => rfl); (case hr => first | (go_simp; done) | (go_simp; rfl)); intro gb276 hg w11 hbox hb; have n0_ := Aside0.mk (blk_below (g := gb274) (o := .cells #[.int .i64 a0_0, .int .i64 a0_1, .int .i64 a0_2] 26 (0, 0)) (by (with_reducible repeat (first | refine bN ?_ _ | refine bD ?_ | refine bA ?_ _)); exact BK274.out) hb); have n1_ := Aside0.mk (blk_below (g := gb275) (o := .cells #[.int .i64 a1_0, .int .i64 a1_1, .int .i64 a1_2, .int .i64 a1_3, .bool a1_4] 28 (0, 0)) (by (with_reducible repeat (first | refine bN ?_ _ | refine bD ?_ | refine bA ?_ _)); exact BK275.out) hb); have n2_ := Aside0.mk (below_step (by repeat (first | (with_reducible first | exact HB.out | apply below_alloc | apply pw_below_drewN | apply below_drew1 | refine bS ?_ GE274.out | refine bS ?_ GE275.out) | exact HB.out)) hb); have n3_ := Aside0.mk (hbox); have n4_ := Aside0.mk ((by rw [hg]; exact (below_size (by repeat (first | (with_reducible first | exact HB.out | apply below_alloc | apply pw_below_drewN | apply below_drew1 | refine bS ?_ GE274.out | refine bS ?_ GE275.out) | exact HB.out))) : w.heap.size ≤ gb276)); have n5_ := Aside0.mk ((by rw [hg]; exact (below_size (by repeat (first | (with_reducible first | exact HB.out | apply below_alloc | apply pw_below_drewN | apply below_drew1 | refine bS ?_ GE274.out | refine bS ?_ GE275.out) | exact HB.out))) : w.heap.size ≤ gb276)); have n6_ := Aside0.mk ((by rw [hg]; exact Nat.ne_of_lt (blk_lt (g := gb274) (o := .cells #[.int .i64 a0_0, .int .i64 a0_1, .int .i64 a0_2] 26 (0, 0)) (by (with_reducible repeat (first | refine bN ?_ _ | refine bD ?_ | refine bA ?_ _)); exact BK274.out)) : gb274 ≠ gb276)); have n7_ := Aside0.mk ((by rw [hg]; exact Nat.ne_of_gt (blk_lt (g := gb274) (o := .cells #[.int .i64 a0_0, .int .i64 a0_1, .int .i64 a0_2] 26 (0, 0)) (by (with_reducible repeat (first | refine bN ?_ _ | refine bD ?_ | refine bA ?_ _)); exact BK274.out)) : gb276 ≠ gb274)); have n8_ := Aside0.mk ((by rw [hg]; exact Nat.ne_of_lt (blk_lt (g := gb275) (o := .cells #[.int .i64 a1_0, .int .i64 a1_1, .int .i64 a1_2, .int .i64 a1_3, .bool a1_4] 28 (0, 0)) (by (with_reducible repeat (first | refine bN ?_ _ | refine bD ?_ | refine bA ?_ _)); exact BK275.out)) : gb275 ≠ gb276)); have n9_ := Aside0.mk ((by rw [hg]; exact Nat.ne_of_gt (blk_lt (g := gb275) (o := .cells #[.int .i64 a1_0, .int .i64 a1_1, .int .i64 a1_2, .int .i64 a1_3, .bool a1_4] 28 (0, 0)) (by (with_reducible repeat (first | refine bN ?_ _ | refine bD ?_ | refine bA ?_ _)); exact BK275.out)) : gb276 ≠ gb275)); clear BK274; clear BK275; clear HB; have BK274 := n0_; have BK275 := n1_; have HB := n2_; have BK276 := n3_; have GW276 := n4_; have GE276 := n5_; have NB274_276 := n6_; have NB276_274 := n7_; have NB275_276 := n8_; have NB276_275 := n9_; clear n0_ n1_ n2_ n3_ n4_ n5_ n6_ n7_ n8_ n9_; clear hb hbox hg; have hnb12 := NB275_274.out; have hnc12 := NB274_275.out; have hnb13 := NB275_276.out; have hnc13 := NB276_275.out; have hcz14_0 := cI BK275.out 0 rfl; have hcz14_1 := cI BK275.out 1 rfl; have hcz14_2 := cI BK275.out 2 rfl; have hcz14_3 := cI BK275.out 3 rfl; have hcz14_4 := cI BK275.out 4 rfl; have hfz14_0 := bF BK275.out 0; have hfz14_1 := bF BK275.out 1; have hfz14_2 := bF BK275.out 2; have hfz14_3 := bF BK275.out 3; have hfz14_4 := bF BK275.out 4; have hnb15 := NB276_274.out; have hnc15 := NB274_276.out; have hcz16_0 := cI BK276.out 0 rfl; have hcz16_1 := cI BK276.out 1 rfl; have hcz16_2 := cI BK276.out 2 rfl; have hcz16_3 := cI BK276.out 3 rfl; have hcz16_4 := cI BK276.out 4 rfl; have hfz16_0 := bF BK276.out 0; have hfz16_1 := bF BK276.out 1; have hfz16_2 := bF BK276.out 2; have hfz16_3 := bF BK276.out 3; have hfz16_4 := bF BK276.out 4))
 have n0_ : Aside0 ((w11.setCell ⟨gb276, 4, none⟩ (.bool a1_4)).heap[gb274]? = some (.cells #[.int .i64 a0_0, .int .i64 a0_1, .int .i64 a0_2] 26 (0, 0))) := ⟨by (with_reducible repeat (first | refine bN ?_ _ | refine bD ?_ | refine bA ?_ _)); refine blk_far ?_ NB274_276.out _; (with_reducible repeat (first | refine bN ?_ _ | refine bD ?_ | refine bA ?_ _)); exact BK274.out⟩
 have n1_ : Aside0 ((w11.setCell ⟨gb276, 4, none⟩ (.bool a1_4)).heap[gb275]? = some (.cells #[.int .i64 a1_0, .int .i64 a1_1, .int .i64 a1_2, .int .i64 a1_3, .bool a1_4] 28 (0, 0))) := ⟨by (with_reducible repeat (first | refine bN ?_ _ | refine bD ?_ | refine bA ?_ _)); refine blk_far ?_ NB275_276.out _; (with_reducible repeat (first | refine bN ?_ _ | refine bD ?_ | refine bA ?_ _)); exact BK275.out⟩
 have n2_ : Aside0 ((w11.setCell ⟨gb276, 4, none⟩ (.bool a1_4)).heap[gb276]? = some (.cells #[.int .i64 a2_0, .int .i64 a2_1, .int .i64 a2_2, .int .i64 a2_3, .bool a1_4] 28 (0, 0))) := ⟨by (with_reducible repeat (first | refine bN ?_ _ | refine bD ?_ | refine bA ?_ _)); refine blk_put (cs := #[.int .i64 a2_0, .int .i64 a2_1, .int .i64 a2_2, .int .i64 a2_3, .bool a2_4]) ?_ 4 _ rfl; (with_reducible repeat (first | refine bN ?_ _ | refine bD ?_ | refine bA ?_ _)); exact BK276.out⟩
 have n3_ : Aside0 (Below w.heap.size w (w11.setCell ⟨gb276, 4, none⟩ (.bool a1_4))) := ⟨by repeat (first | (with_reducible first | exact HB.out | apply below_alloc | apply pw_below_drewN | apply below_drew1 | refine bS ?_ GE274.out | refine bS ?_ GE275.out | refine bS ?_ GE276.out) | exact HB.out)⟩
 (try clear BK274)
 (try clear BK275)
 (try clear BK276)
 (try clear HB)
 generalize (w11.setCell ⟨gb276, 4, none⟩ (.bool a1_4)) = w17 at n0_ n1_ n2_ n3_ ⊢
 have BK274 := n0_
 have BK275 := n1_
 have BK276 := n2_
 have HB := n3_
 clear n0_ n1_ n2_ n3_
 have n0_ := Aside0.mk (blk_drew BK274.out)
 have n1_ := Aside0.mk (blk_drew BK275.out)
 have n2_ := Aside0.mk (blk_drew BK276.out)
 have n3_ := Aside0.mk (below_drew1 HB.out)
 clear BK274
 clear BK275
 clear BK276
 clear HB
 have BK274 := n0_
 have BK275 := n1_
 have BK276 := n2_
 have HB := n3_
 clear n0_ n1_ n2_ n3_
 refine start_ (n := 13) (S := fun w' => w'.cell? ⟨gb274, 0, none⟩ = some (.int .i64 a0_0) ∧ w'.cell? ⟨gb274, 1, none⟩ = some (.int .i64 a0_1) ∧ w'.cell? ⟨gb274, 2, none⟩ = some (.int .i64 a0_2) ∧ w'.cell? ⟨gb275, 0, none⟩ = some (.int .i64 a1_0) ∧ w'.cell? ⟨gb275, 1, none⟩ = some (.int .i64 a1_1) ∧ w'.cell? ⟨gb275, 2, none⟩ = some (.int .i64 a1_2) ∧ w'.cell? ⟨gb275, 3, none⟩ = some (.int .i64 a1_3) ∧ w'.cell? ⟨gb275, 4, none⟩ = some (.bool a1_4)) (ds := []) #[false, false, false, false, false, false, false, false, false, false, false, false, false] (by kernel_rfl) rfl rfl ⟨(blk_cell BK274.out 0).trans rfl, (blk_cell BK274.out 1).trans rfl, (blk_cell BK274.out 2).trans rfl, (blk_cell BK275.out 0).trans rfl, (blk_cell BK275.out 1).trans rfl, (blk_cell BK275.out 2).trans rfl, (blk_cell BK275.out 3).trans rfl, (blk_cell BK275.out 4).trans rfl⟩ (fun hHeld => ?_); refine with_tabW frisketlaw19_PlaceApart.tab2 frisketlaw19_PlaceApart.bits2 (fun HT_ HW_ => ?_)
 generalize w17.drew = w18 at BK274 BK275 BK276 HB hHeld ⊢
 refine pure_ (i := 0) (N := some 18) (v := ?_) (a' := ?_) #[true, false, false, false, false, false, false, false, false, false, false, false, false] rfl rfl (any_of HT_.out (by kernel_rfl)) (fun _ _ _ h => h) (Or.inl ⟨by rfl, ?_⟩) ?_ ?_
 rotate_left
 ·intro w'
  go_simp
  with_reducible rfl
 rotate_left
 ·simp only [Act.put, List.setIfInBounds_toArray, List.set_cons_zero, List.set_cons_succ, i64_w, i32_w]
  rfl
 refine pure_ (i := 2) (N := some 20) (v := ?_) (a' := ?_) #[true, false, true, false, false, false, false, false, false, false, false, false, false] rfl rfl (any_of HT_.out (by kernel_rfl)) (fun _ _ _ h => h) (Or.inl ⟨by rfl, ?_⟩) ?_ ?_
 rotate_left
 ·intro w'
  go_simp
  with_reducible rfl
 rotate_left
 ·simp only [Act.put, List.setIfInBounds_toArray, List.set_cons_zero, List.set_cons_succ, i64_w, i32_w]
  rfl
 refine take_ (i := 1) (N := some 19) (v := ?_) (a' := ?_) #[true, true, true, false, false, false, false, false, false, false, false, false, false] rfl rfl (take_ofW HT_.out HW_.out (by kernel_rfl)) (fun _ _ _ h => h) (Or.inl ⟨by rfl, ?_⟩) hHeld ?_ ?_
 rotate_left
 ·rintro w' ⟨s0, s1, s2, s3, s4, s5, s6, s7⟩
  go_simp
  with_reducible rfl
 rotate_left
 ·simp only [Act.put, List.setIfInBounds_toArray, List.set_cons_zero, List.set_cons_succ, i64_w, i32_w]
  rfl
 refine take_ (i := 3) (N := some 21) (v := ?_) (a' := ?_) #[true, true, true, true, false, false, false, false, false, false, false, false, false] rfl rfl (take_ofW HT_.out HW_.out (by kernel_rfl)) (fun _ _ _ h => h) (Or.inl ⟨by rfl, ?_⟩) hHeld ?_ ?_
 rotate_left
 ·rintro w' ⟨s0, s1, s2, s3, s4, s5, s6, s7⟩
  go_simp
  with_reducible rfl
 rotate_left
 ·simp only [Act.put, List.setIfInBounds_toArray, List.set_cons_zero, List.set_cons_succ, i64_w, i32_w]
  rfl
 refine take_ (i := 4) (N := some 22) (v := ?_) (a' := ?_) #[true, true, true, true, true, false, false, false, false, false, false, false, false] rfl rfl (take_ofW HT_.out HW_.out (by kernel_rfl)) (fun _ _ _ h => h) (Or.inl ⟨by rfl, ?_⟩) hHeld ?_ ?_
 rotate_left
 ·rintro w' ⟨s0, s1, s2, s3, s4, s5, s6, s7⟩
  go_simp
  with_reducible rfl
 rotate_left
 ·simp only [Act.put, List.setIfInBounds_toArray, List.set_cons_zero, List.set_cons_succ, i64_w, i32_w]
  rfl
 refine join_ (σ := Nat) 2 #[true, true, true, true, true, true, true, true, true, true, true, false, false] (fun s_ => [(23, .agg #[.int .i64 t277, .int .i64 t278, .int .i64 t279, .int .i64 t280, .bool t281]), (24, .tuple #[.agg #[.int .i64 t282, .int .i64 t283, .int .i64 t284, .int .i64 t285], .int .i64 t286]), (7, .pointer (some ⟨s_, 0, none⟩)), (17, .tuple #[.agg #[.int .i64 t282, .int .i64 t283, .int .i64 t284, .int .i64 t285], .int .i64 t286]), (25, .agg #[.int .i64 t282, .int .i64 t283, .int .i64 t284, .int .i64 t285]), (26, .int .i64 t286)]) (fun s_ w' => (w'.cell? ⟨gb274, 0, none⟩ = some (.int .i64 a0_0) ∧ w'.cell? ⟨gb274, 1, none⟩ = some (.int .i64 a0_1) ∧ w'.cell? ⟨gb274, 2, none⟩ = some (.int .i64 a0_2) ∧ w'.cell? ⟨gb275, 0, none⟩ = some (.int .i64 a1_0) ∧ w'.cell? ⟨gb275, 1, none⟩ = some (.int .i64 a1_1) ∧ w'.cell? ⟨gb275, 2, none⟩ = some (.int .i64 a1_2) ∧ w'.cell? ⟨gb275, 3, none⟩ = some (.int .i64 a1_3) ∧ w'.cell? ⟨gb275, 4, none⟩ = some (.bool a1_4)) ∧ (w'.heap[gb274]? = some (.cells #[.int .i64 a0_0, .int .i64 a0_1, .int .i64 a0_2] 26 (0, 0))) ∧ (w'.heap[gb275]? = some (.cells #[.int .i64 a1_0, .int .i64 a1_1, .int .i64 a1_2, .int .i64 a1_3, .bool a1_4] 28 (0, 0))) ∧ (w'.heap[gb276]? = some (.cells #[.int .i64 a2_0, .int .i64 a2_1, .int .i64 a2_2, .int .i64 a2_3, .bool a1_4] 28 (0, 0))) ∧ (w'.heap[s_]? = some (.cells #[.int .i64 0, .int .i64 0, .int .i64 0, .int .i64 0] 33 (0, 0))) ∧ (w.heap.size ≤ s_) ∧ (w.heap.size ≤ s_) ∧ (gb274 ≠ s_) ∧ (s_ ≠ gb274) ∧ (gb275 ≠ s_) ∧ (s_ ≠ gb275) ∧ (gb276 ≠ s_) ∧ (s_ ≠ gb276) ∧ (Below w.heap.size w w')) ?_ ?_
 rotate_left
 ·intro hCont
  refine two_ (i := 5) (j := 10) (Ni := some 23) (Nj := some 7) #[true, true, true, true, true, true, false, false, false, false, false, false, false] #[true, true, true, true, true, false, false, false, false, false, true, false, false] rfl rfl rfl rfl (two_of HT_.out (by kernel_rfl)) (by decide) (by decide) (fun K hK => ?_) (fun K hK => ?_)
  ·skip
   refine goes_ Try.func11 (by kernel_rfl) rfl #[.agg #[.int .i64 a1_0, .int .i64 a1_1, .int .i64 a1_2, .int .i64 a1_3, .bool a1_4]] (by rfl) rfl rfl (by (try simp only [List.map_toArray, List.map_cons, List.map_nil]); first | done | rfl | (simp only [List.length_drop, List.length_take]; rfl)) ?_
   with_reducible refine (frisketlaw19_box.calls a1_0 a1_1 a1_2 a1_3 a1_4 t277 t278 t279 t280 t281 _ A4.out).mono ?_
   rintro e w19 ⟨rfl, hb⟩
   refine ⟨_, rfl, ?_⟩
   have n0_ := Aside0.mk (blk_below (g := gb274) (o := .cells #[.int .i64 a0_0, .int .i64 a0_1, .int .i64 a0_2] 26 (0, 0)) (by (with_reducible repeat (first | refine bN ?_ _ | refine bD ?_ | refine bA ?_ _)); exact BK274.out) hb)
   have n1_ := Aside0.mk (blk_below (g := gb275) (o := .cells #[.int .i64 a1_0, .int .i64 a1_1, .int .i64 a1_2, .int .i64 a1_3, .bool a1_4] 28 (0, 0)) (by (with_reducible repeat (first | refine bN ?_ _ | refine bD ?_ | refine bA ?_ _)); exact BK275.out) hb)
   have n2_ := Aside0.mk (blk_below (g := gb276) (o := .cells #[.int .i64 a2_0, .int .i64 a2_1, .int .i64 a2_2, .int .i64 a2_3, .bool a1_4] 28 (0, 0)) (by (with_reducible repeat (first | refine bN ?_ _ | refine bD ?_ | refine bA ?_ _)); exact BK276.out) hb)
   have n3_ := Aside0.mk (below_step (by repeat (first | (with_reducible first | exact HB.out | apply below_alloc | apply pw_below_drewN | apply below_drew1 | refine bS ?_ GE274.out | refine bS ?_ GE275.out | refine bS ?_ GE276.out) | exact HB.out)) hb)
   clear BK274
   clear BK275
   clear BK276
   clear HB
   have BK274 := n0_
   have BK275 := n1_
   have BK276 := n2_
   have HB := n3_
   clear n0_ n1_ n2_ n3_
   (try clear hb)
   (try clear hb2)
   (try clear hk)
   (try clear hi)
   refine hK.out _ _ ⟨(blk_cell BK274.out 0).trans rfl, (blk_cell BK274.out 1).trans rfl, (blk_cell BK274.out 2).trans rfl, (blk_cell BK275.out 0).trans rfl, (blk_cell BK275.out 1).trans rfl, (blk_cell BK275.out 2).trans rfl, (blk_cell BK275.out 3).trans rfl, (blk_cell BK275.out 4).trans rfl⟩ (fun hHeld => ?_)
   clear hK K
   refine norm_ (a' := ?_) ?_ ?_
   rotate_left
   ·show Act.put _ (some 23) _ = _
    simp only [Act.put, List.setIfInBounds_toArray, List.set_cons_zero, List.set_cons_succ, i64_w, i32_w]
    rfl
   refine two_ (i := 6) (j := 10) (Ni := some 24) (Nj := some 7) #[true, true, true, true, true, true, true, false, false, false, false, false, false] #[true, true, true, true, true, true, false, false, false, false, true, false, false] rfl rfl rfl rfl (two_of HT_.out (by kernel_rfl)) (by decide) (by decide) (fun K hK => ?_) (fun K hK => ?_)
   ·skip
    refine goes_ Try.func10 (by kernel_rfl) rfl #[.agg #[.int .i64 a0_0, .int .i64 a0_1], .int .i64 a0_2, .agg #[.int .i64 t277, .int .i64 t278, .int .i64 t279, .int .i64 t280, .bool t281]] (by rfl) rfl rfl (by (try simp only [List.map_toArray, List.map_cons, List.map_nil]); first | done | rfl | (simp only [List.length_drop, List.length_take]; rfl)) ?_
    with_reducible refine (place_Cells.calls a0_0 a0_1 a0_2 t277 t278 t279 t280 t281 t282 t283 t284 t285 t286 _ A5.out).mono ?_
    rintro e w20 ⟨rfl, hb⟩
    refine ⟨_, rfl, ?_⟩
    have n0_ := Aside0.mk (blk_below (g := gb274) (o := .cells #[.int .i64 a0_0, .int .i64 a0_1, .int .i64 a0_2] 26 (0, 0)) (by (with_reducible repeat (first | refine bN ?_ _ | refine bD ?_ | refine bA ?_ _)); exact BK274.out) hb)
    have n1_ := Aside0.mk (blk_below (g := gb275) (o := .cells #[.int .i64 a1_0, .int .i64 a1_1, .int .i64 a1_2, .int .i64 a1_3, .bool a1_4] 28 (0, 0)) (by (with_reducible repeat (first | refine bN ?_ _ | refine bD ?_ | refine bA ?_ _)); exact BK275.out) hb)
    have n2_ := Aside0.mk (blk_below (g := gb276) (o := .cells #[.int .i64 a2_0, .int .i64 a2_1, .int .i64 a2_2, .int .i64 a2_3, .bool a1_4] 28 (0, 0)) (by (with_reducible repeat (first | refine bN ?_ _ | refine bD ?_ | refine bA ?_ _)); exact BK276.out) hb)
    have n3_ := Aside0.mk (below_step (by repeat (first | (with_reducible first | exact HB.out | apply below_alloc | apply pw_below_drewN | apply below_drew1 | refine bS ?_ GE274.out | refine bS ?_ GE275.out | refine bS ?_ GE276.out) | exact HB.out)) hb)
    clear BK274
    clear BK275
    clear BK276
    clear HB
    have BK274 := n0_
    have BK275 := n1_
    have BK276 := n2_
    have HB := n3_
    clear n0_ n1_ n2_ n3_
    (try clear hb)
    (try clear hb2)
    (try clear hk)
    (try clear hi)
    refine hK.out _ _ ⟨(blk_cell BK274.out 0).trans rfl, (blk_cell BK274.out 1).trans rfl, (blk_cell BK274.out 2).trans rfl, (blk_cell BK275.out 0).trans rfl, (blk_cell BK275.out 1).trans rfl, (blk_cell BK275.out 2).trans rfl, (blk_cell BK275.out 3).trans rfl, (blk_cell BK275.out 4).trans rfl⟩ (fun hHeld => ?_)
    clear hK K
    refine norm_ (a' := ?_) ?_ ?_
    rotate_left
    ·show Act.put _ (some 24) _ = _
     simp only [Act.put, List.setIfInBounds_toArray, List.set_cons_zero, List.set_cons_succ, i64_w, i32_w]
     rfl
    refine pure_ (i := 7) (N := some 17) (v := ?_) (a' := ?_) #[true, true, true, true, true, true, true, true, false, false, false, false, false] rfl rfl (any_of HT_.out (by kernel_rfl)) (fun _ _ _ h => h) (Or.inl ⟨by rfl, ?_⟩) ?_ ?_
    rotate_left
    ·intro w'
     go_simp
     with_reducible rfl
    rotate_left
    ·simp only [Act.put, List.setIfInBounds_toArray, List.set_cons_zero, List.set_cons_succ, i64_w, i32_w]
     rfl
    refine pure_ (i := 8) (N := some 25) (v := ?_) (a' := ?_) #[true, true, true, true, true, true, true, true, true, false, false, false, false] rfl rfl (any_of HT_.out (by kernel_rfl)) (fun _ _ _ h => h) (Or.inl ⟨by rfl, ?_⟩) ?_ ?_
    rotate_left
    ·intro w'
     go_simp
     with_reducible rfl
    rotate_left
    ·simp only [Act.put, List.setIfInBounds_toArray, List.set_cons_zero, List.set_cons_succ, i64_w, i32_w]
     rfl
    refine pure_ (i := 9) (N := some 26) (v := ?_) (a' := ?_) #[true, true, true, true, true, true, true, true, true, true, false, false, false] rfl rfl (any_of HT_.out (by kernel_rfl)) (fun _ _ _ h => h) (Or.inl ⟨by rfl, ?_⟩) ?_ ?_
    rotate_left
    ·intro w'
     go_simp
     with_reducible rfl
    rotate_left
    ·simp only [Act.put, List.setIfInBounds_toArray, List.set_cons_zero, List.set_cons_succ, i64_w, i32_w]
     rfl
    refine one_ (i := 10) (N := some 7) #[true, true, true, true, true, true, true, true, true, true, true, false, false] rfl rfl (one_of HT_.out (by kernel_rfl)) (by decide) (fun K hK => ?_)
    refine box_step ?hg (N := 7) ?hd (cs := #[.int .i64 0, .int .i64 0, .int .i64 0, .int .i64 0]) (t := 33) ?hr ?_; (case hd => rfl); (case hg => rfl); (case hr => first | (go_simp; done) | (go_simp; rfl))
    intro gb287 hg w21 hbox hb
    have n0_ := Aside0.mk (blk_below (g := gb274) (o := .cells #[.int .i64 a0_0, .int .i64 a0_1, .int .i64 a0_2] 26 (0, 0)) (by (with_reducible repeat (first | refine bN ?_ _ | refine bD ?_ | refine bA ?_ _)); exact BK274.out) hb)
    have n1_ := Aside0.mk (blk_below (g := gb275) (o := .cells #[.int .i64 a1_0, .int .i64 a1_1, .int .i64 a1_2, .int .i64 a1_3, .bool a1_4] 28 (0, 0)) (by (with_reducible repeat (first | refine bN ?_ _ | refine bD ?_ | refine bA ?_ _)); exact BK275.out) hb)
    have n2_ := Aside0.mk (blk_below (g := gb276) (o := .cells #[.int .i64 a2_0, .int .i64 a2_1, .int .i64 a2_2, .int .i64 a2_3, .bool a1_4] 28 (0, 0)) (by (with_reducible repeat (first | refine bN ?_ _ | refine bD ?_ | refine bA ?_ _)); exact BK276.out) hb)
    have n3_ := Aside0.mk (below_step (by repeat (first | (with_reducible first | exact HB.out | apply below_alloc | apply pw_below_drewN | apply below_drew1 | refine bS ?_ GE274.out | refine bS ?_ GE275.out | refine bS ?_ GE276.out) | exact HB.out)) hb)
    have n4_ := Aside0.mk (hbox)
    have n5_ := Aside0.mk ((by rw [hg]; exact (below_size (by repeat (first | (with_reducible first | exact HB.out | apply below_alloc | apply pw_below_drewN | apply below_drew1 | refine bS ?_ GE274.out | refine bS ?_ GE275.out | refine bS ?_ GE276.out) | exact HB.out))) : w.heap.size ≤ gb287))
    have n6_ := Aside0.mk ((by rw [hg]; exact (below_size (by repeat (first | (with_reducible first | exact HB.out | apply below_alloc | apply pw_below_drewN | apply below_drew1 | refine bS ?_ GE274.out | refine bS ?_ GE275.out | refine bS ?_ GE276.out) | exact HB.out))) : w.heap.size ≤ gb287))
    have n7_ := Aside0.mk ((by rw [hg]; exact Nat.ne_of_lt (blk_lt (g := gb274) (o := .cells #[.int .i64 a0_0, .int .i64 a0_1, .int .i64 a0_2] 26 (0, 0)) (by (with_reducible repeat (first | refine bN ?_ _ | refine bD ?_ | refine bA ?_ _)); exact BK274.out)) : gb274 ≠ gb287))
    have n8_ := Aside0.mk ((by rw [hg]; exact Nat.ne_of_gt (blk_lt (g := gb274) (o := .cells #[.int .i64 a0_0, .int .i64 a0_1, .int .i64 a0_2] 26 (0, 0)) (by (with_reducible repeat (first | refine bN ?_ _ | refine bD ?_ | refine bA ?_ _)); exact BK274.out)) : gb287 ≠ gb274))
    have n9_ := Aside0.mk ((by rw [hg]; exact Nat.ne_of_lt (blk_lt (g := gb275) (o := .cells #[.int .i64 a1_0, .int .i64 a1_1, .int .i64 a1_2, .int .i64 a1_3, .bool a1_4] 28 (0, 0)) (by (with_reducible repeat (first | refine bN ?_ _ | refine bD ?_ | refine bA ?_ _)); exact BK275.out)) : gb275 ≠ gb287))
    have n10_ := Aside0.mk ((by rw [hg]; exact Nat.ne_of_gt (blk_lt (g := gb275) (o := .cells #[.int .i64 a1_0, .int .i64 a1_1, .int .i64 a1_2, .int .i64 a1_3, .bool a1_4] 28 (0, 0)) (by (with_reducible repeat (first | refine bN ?_ _ | refine bD ?_ | refine bA ?_ _)); exact BK275.out)) : gb287 ≠ gb275))
    have n11_ := Aside0.mk ((by rw [hg]; exact Nat.ne_of_lt (blk_lt (g := gb276) (o := .cells #[.int .i64 a2_0, .int .i64 a2_1, .int .i64 a2_2, .int .i64 a2_3, .bool a1_4] 28 (0, 0)) (by (with_reducible repeat (first | refine bN ?_ _ | refine bD ?_ | refine bA ?_ _)); exact BK276.out)) : gb276 ≠ gb287))
    have n12_ := Aside0.mk ((by rw [hg]; exact Nat.ne_of_gt (blk_lt (g := gb276) (o := .cells #[.int .i64 a2_0, .int .i64 a2_1, .int .i64 a2_2, .int .i64 a2_3, .bool a1_4] 28 (0, 0)) (by (with_reducible repeat (first | refine bN ?_ _ | refine bD ?_ | refine bA ?_ _)); exact BK276.out)) : gb287 ≠ gb276))
    clear BK274
    clear BK275
    clear BK276
    clear HB
    have BK274 := n0_
    have BK275 := n1_
    have BK276 := n2_
    have HB := n3_
    have BK287 := n4_
    have GW287 := n5_
    have GE287 := n6_
    have NB274_287 := n7_
    have NB287_274 := n8_
    have NB275_287 := n9_
    have NB287_275 := n10_
    have NB276_287 := n11_
    have NB287_276 := n12_
    clear n0_ n1_ n2_ n3_ n4_ n5_ n6_ n7_ n8_ n9_ n10_ n11_ n12_
    clear hb hbox hg
    refine hK.out _ _ ⟨(blk_cell BK274.out 0).trans rfl, (blk_cell BK274.out 1).trans rfl, (blk_cell BK274.out 2).trans rfl, (blk_cell BK275.out 0).trans rfl, (blk_cell BK275.out 1).trans rfl, (blk_cell BK275.out 2).trans rfl, (blk_cell BK275.out 3).trans rfl, (blk_cell BK275.out 4).trans rfl⟩ (fun hHeld => ?_)
    clear hK K
    refine norm_ (a' := ?_) ?_ ?_
    rotate_left
    ·show Act.put _ (some 7) _ = _
     simp only [Act.put, List.setIfInBounds_toArray, List.set_cons_zero, List.set_cons_succ, i64_w, i32_w]
     rfl
    exact norm_ (by simp only [putAll, Act.put, List.setIfInBounds_toArray, List.set_cons_zero, List.set_cons_succ]) (hCont (gb287) _ ⟨hHeld, (by (with_reducible repeat (first | refine bN ?_ _ | refine bD ?_ | refine bA ?_ _)); exact BK274.out), (by (with_reducible repeat (first | refine bN ?_ _ | refine bD ?_ | refine bA ?_ _)); exact BK275.out), (by (with_reducible repeat (first | refine bN ?_ _ | refine bD ?_ | refine bA ?_ _)); exact BK276.out), (by (with_reducible repeat (first | refine bN ?_ _ | refine bD ?_ | refine bA ?_ _)); exact BK287.out), GW287.out, GE287.out, NB274_287.out, NB287_274.out, NB275_287.out, NB287_275.out, NB276_287.out, NB287_276.out, (by repeat (first | (with_reducible first | exact HB.out | apply below_alloc | apply pw_below_drewN | apply below_drew1 | refine bS ?_ GE274.out | refine bS ?_ GE275.out | refine bS ?_ GE276.out | refine bS ?_ GE287.out) | exact HB.out))⟩)
   ·skip
    refine box_step ?hg (N := 7) ?hd (cs := #[.int .i64 0, .int .i64 0, .int .i64 0, .int .i64 0]) (t := 33) ?hr ?_; (case hd => rfl); (case hg => rfl); (case hr => first | (go_simp; done) | (go_simp; rfl))
    intro gb287 hg w20 hbox hb
    have n0_ := Aside0.mk (blk_below (g := gb274) (o := .cells #[.int .i64 a0_0, .int .i64 a0_1, .int .i64 a0_2] 26 (0, 0)) (by (with_reducible repeat (first | refine bN ?_ _ | refine bD ?_ | refine bA ?_ _)); exact BK274.out) hb)
    have n1_ := Aside0.mk (blk_below (g := gb275) (o := .cells #[.int .i64 a1_0, .int .i64 a1_1, .int .i64 a1_2, .int .i64 a1_3, .bool a1_4] 28 (0, 0)) (by (with_reducible repeat (first | refine bN ?_ _ | refine bD ?_ | refine bA ?_ _)); exact BK275.out) hb)
    have n2_ := Aside0.mk (blk_below (g := gb276) (o := .cells #[.int .i64 a2_0, .int .i64 a2_1, .int .i64 a2_2, .int .i64 a2_3, .bool a1_4] 28 (0, 0)) (by (with_reducible repeat (first | refine bN ?_ _ | refine bD ?_ | refine bA ?_ _)); exact BK276.out) hb)
    have n3_ := Aside0.mk (below_step (by repeat (first | (with_reducible first | exact HB.out | apply below_alloc | apply pw_below_drewN | apply below_drew1 | refine bS ?_ GE274.out | refine bS ?_ GE275.out | refine bS ?_ GE276.out) | exact HB.out)) hb)
    have n4_ := Aside0.mk (hbox)
    have n5_ := Aside0.mk ((by rw [hg]; exact (below_size (by repeat (first | (with_reducible first | exact HB.out | apply below_alloc | apply pw_below_drewN | apply below_drew1 | refine bS ?_ GE274.out | refine bS ?_ GE275.out | refine bS ?_ GE276.out) | exact HB.out))) : w.heap.size ≤ gb287))
    have n6_ := Aside0.mk ((by rw [hg]; exact (below_size (by repeat (first | (with_reducible first | exact HB.out | apply below_alloc | apply pw_below_drewN | apply below_drew1 | refine bS ?_ GE274.out | refine bS ?_ GE275.out | refine bS ?_ GE276.out) | exact HB.out))) : w.heap.size ≤ gb287))
    have n7_ := Aside0.mk ((by rw [hg]; exact Nat.ne_of_lt (blk_lt (g := gb274) (o := .cells #[.int .i64 a0_0, .int .i64 a0_1, .int .i64 a0_2] 26 (0, 0)) (by (with_reducible repeat (first | refine bN ?_ _ | refine bD ?_ | refine bA ?_ _)); exact BK274.out)) : gb274 ≠ gb287))
    have n8_ := Aside0.mk ((by rw [hg]; exact Nat.ne_of_gt (blk_lt (g := gb274) (o := .cells #[.int .i64 a0_0, .int .i64 a0_1, .int .i64 a0_2] 26 (0, 0)) (by (with_reducible repeat (first | refine bN ?_ _ | refine bD ?_ | refine bA ?_ _)); exact BK274.out)) : gb287 ≠ gb274))
    have n9_ := Aside0.mk ((by rw [hg]; exact Nat.ne_of_lt (blk_lt (g := gb275) (o := .cells #[.int .i64 a1_0, .int .i64 a1_1, .int .i64 a1_2, .int .i64 a1_3, .bool a1_4] 28 (0, 0)) (by (with_reducible repeat (first | refine bN ?_ _ | refine bD ?_ | refine bA ?_ _)); exact BK275.out)) : gb275 ≠ gb287))
    have n10_ := Aside0.mk ((by rw [hg]; exact Nat.ne_of_gt (blk_lt (g := gb275) (o := .cells #[.int .i64 a1_0, .int .i64 a1_1, .int .i64 a1_2, .int .i64 a1_3, .bool a1_4] 28 (0, 0)) (by (with_reducible repeat (first | refine bN ?_ _ | refine bD ?_ | refine bA ?_ _)); exact BK275.out)) : gb287 ≠ gb275))
    have n11_ := Aside0.mk ((by rw [hg]; exact Nat.ne_of_lt (blk_lt (g := gb276) (o := .cells #[.int .i64 a2_0, .int .i64 a2_1, .int .i64 a2_2, .int .i64 a2_3, .bool a1_4] 28 (0, 0)) (by (with_reducible repeat (first | refine bN ?_ _ | refine bD ?_ | refine bA ?_ _)); exact BK276.out)) : gb276 ≠ gb287))
    have n12_ := Aside0.mk ((by rw [hg]; exact Nat.ne_of_gt (blk_lt (g := gb276) (o := .cells #[.int .i64 a2_0, .int .i64 a2_1, .int .i64 a2_2, .int .i64 a2_3, .bool a1_4] 28 (0, 0)) (by (with_reducible repeat (first | refine bN ?_ _ | refine bD ?_ | refine bA ?_ _)); exact BK276.out)) : gb287 ≠ gb276))
    clear BK274
    clear BK275
    clear BK276
    clear HB
    have BK274 := n0_
    have BK275 := n1_
    have BK276 := n2_
    have HB := n3_
    have BK287 := n4_
    have GW287 := n5_
    have GE287 := n6_
    have NB274_287 := n7_
    have NB287_274 := n8_
    have NB275_287 := n9_
    have NB287_275 := n10_
    have NB276_287 := n11_
    have NB287_276 := n12_
    clear n0_ n1_ n2_ n3_ n4_ n5_ n6_ n7_ n8_ n9_ n10_ n11_ n12_
    clear hb hbox hg
    refine hK.out _ _ ⟨(blk_cell BK274.out 0).trans rfl, (blk_cell BK274.out 1).trans rfl, (blk_cell BK274.out 2).trans rfl, (blk_cell BK275.out 0).trans rfl, (blk_cell BK275.out 1).trans rfl, (blk_cell BK275.out 2).trans rfl, (blk_cell BK275.out 3).trans rfl, (blk_cell BK275.out 4).trans rfl⟩ (fun hHeld => ?_)
    clear hK K
    refine norm_ (a' := ?_) ?_ ?_
    rotate_left
    ·show Act.put _ (some 7) _ = _
     simp only [Act.put, List.setIfInBounds_toArray, List.set_cons_zero, List.set_cons_succ, i64_w, i32_w]
     rfl
    refine one_ (i := 6) (N := some 24) #[true, true, true, true, true, true, true, false, false, false, true, false, false] rfl rfl (one_of HT_.out (by kernel_rfl)) (by decide) (fun K hK => ?_)
    refine goes_ Try.func10 (by kernel_rfl) rfl #[.agg #[.int .i64 a0_0, .int .i64 a0_1], .int .i64 a0_2, .agg #[.int .i64 t277, .int .i64 t278, .int .i64 t279, .int .i64 t280, .bool t281]] (by rfl) rfl rfl (by (try simp only [List.map_toArray, List.map_cons, List.map_nil]); first | done | rfl | (simp only [List.length_drop, List.length_take]; rfl)) ?_
    with_reducible refine (place_Cells.calls a0_0 a0_1 a0_2 t277 t278 t279 t280 t281 t282 t283 t284 t285 t286 _ A5.out).mono ?_
    rintro e w21 ⟨rfl, hb⟩
    refine ⟨_, rfl, ?_⟩
    have n0_ := Aside0.mk (blk_below (g := gb274) (o := .cells #[.int .i64 a0_0, .int .i64 a0_1, .int .i64 a0_2] 26 (0, 0)) (by (with_reducible repeat (first | refine bN ?_ _ | refine bD ?_ | refine bA ?_ _)); exact BK274.out) hb)
    have n1_ := Aside0.mk (blk_below (g := gb275) (o := .cells #[.int .i64 a1_0, .int .i64 a1_1, .int .i64 a1_2, .int .i64 a1_3, .bool a1_4] 28 (0, 0)) (by (with_reducible repeat (first | refine bN ?_ _ | refine bD ?_ | refine bA ?_ _)); exact BK275.out) hb)
    have n2_ := Aside0.mk (blk_below (g := gb276) (o := .cells #[.int .i64 a2_0, .int .i64 a2_1, .int .i64 a2_2, .int .i64 a2_3, .bool a1_4] 28 (0, 0)) (by (with_reducible repeat (first | refine bN ?_ _ | refine bD ?_ | refine bA ?_ _)); exact BK276.out) hb)
    have n3_ := Aside0.mk (blk_below (g := gb287) (o := .cells #[.int .i64 0, .int .i64 0, .int .i64 0, .int .i64 0] 33 (0, 0)) (by (with_reducible repeat (first | refine bN ?_ _ | refine bD ?_ | refine bA ?_ _)); exact BK287.out) hb)
    have n4_ := Aside0.mk (below_step (by repeat (first | (with_reducible first | exact HB.out | apply below_alloc | apply pw_below_drewN | apply below_drew1 | refine bS ?_ GE274.out | refine bS ?_ GE275.out | refine bS ?_ GE276.out | refine bS ?_ GE287.out) | exact HB.out)) hb)
    clear BK274
    clear BK275
    clear BK276
    clear BK287
    clear HB
    have BK274 := n0_
    have BK275 := n1_
    have BK276 := n2_
    have BK287 := n3_
    have HB := n4_
    clear n0_ n1_ n2_ n3_ n4_
    (try clear hb)
    (try clear hb2)
    (try clear hk)
    (try clear hi)
    refine hK.out _ _ ⟨(blk_cell BK274.out 0).trans rfl, (blk_cell BK274.out 1).trans rfl, (blk_cell BK274.out 2).trans rfl, (blk_cell BK275.out 0).trans rfl, (blk_cell BK275.out 1).trans rfl, (blk_cell BK275.out 2).trans rfl, (blk_cell BK275.out 3).trans rfl, (blk_cell BK275.out 4).trans rfl⟩ (fun hHeld => ?_)
    clear hK K
    refine norm_ (a' := ?_) ?_ ?_
    rotate_left
    ·show Act.put _ (some 24) _ = _
     simp only [Act.put, List.setIfInBounds_toArray, List.set_cons_zero, List.set_cons_succ, i64_w, i32_w]
     rfl
    refine pure_ (i := 7) (N := some 17) (v := ?_) (a' := ?_) #[true, true, true, true, true, true, true, true, false, false, true, false, false] rfl rfl (any_of HT_.out (by kernel_rfl)) (fun _ _ _ h => h) (Or.inl ⟨by rfl, ?_⟩) ?_ ?_
    rotate_left
    ·intro w'
     go_simp
     with_reducible rfl
    rotate_left
    ·simp only [Act.put, List.setIfInBounds_toArray, List.set_cons_zero, List.set_cons_succ, i64_w, i32_w]
     rfl
    refine pure_ (i := 8) (N := some 25) (v := ?_) (a' := ?_) #[true, true, true, true, true, true, true, true, true, false, true, false, false] rfl rfl (any_of HT_.out (by kernel_rfl)) (fun _ _ _ h => h) (Or.inl ⟨by rfl, ?_⟩) ?_ ?_
    rotate_left
    ·intro w'
     go_simp
     with_reducible rfl
    rotate_left
    ·simp only [Act.put, List.setIfInBounds_toArray, List.set_cons_zero, List.set_cons_succ, i64_w, i32_w]
     rfl
    refine pure_ (i := 9) (N := some 26) (v := ?_) (a' := ?_) #[true, true, true, true, true, true, true, true, true, true, true, false, false] rfl rfl (any_of HT_.out (by kernel_rfl)) (fun _ _ _ h => h) (Or.inl ⟨by rfl, ?_⟩) ?_ ?_
    rotate_left
    ·intro w'
     go_simp
     with_reducible rfl
    rotate_left
    ·simp only [Act.put, List.setIfInBounds_toArray, List.set_cons_zero, List.set_cons_succ, i64_w, i32_w]
     rfl
    exact norm_ (by simp only [putAll, Act.put, List.setIfInBounds_toArray, List.set_cons_zero, List.set_cons_succ]) (hCont (gb287) _ ⟨hHeld, (by (with_reducible repeat (first | refine bN ?_ _ | refine bD ?_ | refine bA ?_ _)); exact BK274.out), (by (with_reducible repeat (first | refine bN ?_ _ | refine bD ?_ | refine bA ?_ _)); exact BK275.out), (by (with_reducible repeat (first | refine bN ?_ _ | refine bD ?_ | refine bA ?_ _)); exact BK276.out), (by (with_reducible repeat (first | refine bN ?_ _ | refine bD ?_ | refine bA ?_ _)); exact BK287.out), GW287.out, GE287.out, NB274_287.out, NB287_274.out, NB275_287.out, NB287_275.out, NB276_287.out, NB287_276.out, (by repeat (first | (with_reducible first | exact HB.out | apply below_alloc | apply pw_below_drewN | apply below_drew1 | refine bS ?_ GE274.out | refine bS ?_ GE275.out | refine bS ?_ GE276.out | refine bS ?_ GE287.out) | exact HB.out))⟩)
  ·skip
   refine box_step ?hg (N := 7) ?hd (cs := #[.int .i64 0, .int .i64 0, .int .i64 0, .int .i64 0]) (t := 33) ?hr ?_; (case hd => rfl); (case hg => rfl); (case hr => first | (go_simp; done) | (go_simp; rfl))
   intro gb287 hg w19 hbox hb
   have n0_ := Aside0.mk (blk_below (g := gb274) (o := .cells #[.int .i64 a0_0, .int .i64 a0_1, .int .i64 a0_2] 26 (0, 0)) (by (with_reducible repeat (first | refine bN ?_ _ | refine bD ?_ | refine bA ?_ _)); exact BK274.out) hb)
   have n1_ := Aside0.mk (blk_below (g := gb275) (o := .cells #[.int .i64 a1_0, .int .i64 a1_1, .int .i64 a1_2, .int .i64 a1_3, .bool a1_4] 28 (0, 0)) (by (with_reducible repeat (first | refine bN ?_ _ | refine bD ?_ | refine bA ?_ _)); exact BK275.out) hb)
   have n2_ := Aside0.mk (blk_below (g := gb276) (o := .cells #[.int .i64 a2_0, .int .i64 a2_1, .int .i64 a2_2, .int .i64 a2_3, .bool a1_4] 28 (0, 0)) (by (with_reducible repeat (first | refine bN ?_ _ | refine bD ?_ | refine bA ?_ _)); exact BK276.out) hb)
   have n3_ := Aside0.mk (below_step (by repeat (first | (with_reducible first | exact HB.out | apply below_alloc | apply pw_below_drewN | apply below_drew1 | refine bS ?_ GE274.out | refine bS ?_ GE275.out | refine bS ?_ GE276.out) | exact HB.out)) hb)
   have n4_ := Aside0.mk (hbox)
   have n5_ := Aside0.mk ((by rw [hg]; exact (below_size (by repeat (first | (with_reducible first | exact HB.out | apply below_alloc | apply pw_below_drewN | apply below_drew1 | refine bS ?_ GE274.out | refine bS ?_ GE275.out | refine bS ?_ GE276.out) | exact HB.out))) : w.heap.size ≤ gb287))
   have n6_ := Aside0.mk ((by rw [hg]; exact (below_size (by repeat (first | (with_reducible first | exact HB.out | apply below_alloc | apply pw_below_drewN | apply below_drew1 | refine bS ?_ GE274.out | refine bS ?_ GE275.out | refine bS ?_ GE276.out) | exact HB.out))) : w.heap.size ≤ gb287))
   have n7_ := Aside0.mk ((by rw [hg]; exact Nat.ne_of_lt (blk_lt (g := gb274) (o := .cells #[.int .i64 a0_0, .int .i64 a0_1, .int .i64 a0_2] 26 (0, 0)) (by (with_reducible repeat (first | refine bN ?_ _ | refine bD ?_ | refine bA ?_ _)); exact BK274.out)) : gb274 ≠ gb287))
   have n8_ := Aside0.mk ((by rw [hg]; exact Nat.ne_of_gt (blk_lt (g := gb274) (o := .cells #[.int .i64 a0_0, .int .i64 a0_1, .int .i64 a0_2] 26 (0, 0)) (by (with_reducible repeat (first | refine bN ?_ _ | refine bD ?_ | refine bA ?_ _)); exact BK274.out)) : gb287 ≠ gb274))
   have n9_ := Aside0.mk ((by rw [hg]; exact Nat.ne_of_lt (blk_lt (g := gb275) (o := .cells #[.int .i64 a1_0, .int .i64 a1_1, .int .i64 a1_2, .int .i64 a1_3, .bool a1_4] 28 (0, 0)) (by (with_reducible repeat (first | refine bN ?_ _ | refine bD ?_ | refine bA ?_ _)); exact BK275.out)) : gb275 ≠ gb287))
   have n10_ := Aside0.mk ((by rw [hg]; exact Nat.ne_of_gt (blk_lt (g := gb275) (o := .cells #[.int .i64 a1_0, .int .i64 a1_1, .int .i64 a1_2, .int .i64 a1_3, .bool a1_4] 28 (0, 0)) (by (with_reducible repeat (first | refine bN ?_ _ | refine bD ?_ | refine bA ?_ _)); exact BK275.out)) : gb287 ≠ gb275))
   have n11_ := Aside0.mk ((by rw [hg]; exact Nat.ne_of_lt (blk_lt (g := gb276) (o := .cells #[.int .i64 a2_0, .int .i64 a2_1, .int .i64 a2_2, .int .i64 a2_3, .bool a1_4] 28 (0, 0)) (by (with_reducible repeat (first | refine bN ?_ _ | refine bD ?_ | refine bA ?_ _)); exact BK276.out)) : gb276 ≠ gb287))
   have n12_ := Aside0.mk ((by rw [hg]; exact Nat.ne_of_gt (blk_lt (g := gb276) (o := .cells #[.int .i64 a2_0, .int .i64 a2_1, .int .i64 a2_2, .int .i64 a2_3, .bool a1_4] 28 (0, 0)) (by (with_reducible repeat (first | refine bN ?_ _ | refine bD ?_ | refine bA ?_ _)); exact BK276.out)) : gb287 ≠ gb276))
   clear BK274
   clear BK275
   clear BK276
   clear HB
   have BK274 := n0_
   have BK275 := n1_
   have BK276 := n2_
   have HB := n3_
   have BK287 := n4_
   have GW287 := n5_
   have GE287 := n6_
   have NB274_287 := n7_
   have NB287_274 := n8_
   have NB275_287 := n9_
   have NB287_275 := n10_
   have NB276_287 := n11_
   have NB287_276 := n12_
   clear n0_ n1_ n2_ n3_ n4_ n5_ n6_ n7_ n8_ n9_ n10_ n11_ n12_
   clear hb hbox hg
   refine hK.out _ _ ⟨(blk_cell BK274.out 0).trans rfl, (blk_cell BK274.out 1).trans rfl, (blk_cell BK274.out 2).trans rfl, (blk_cell BK275.out 0).trans rfl, (blk_cell BK275.out 1).trans rfl, (blk_cell BK275.out 2).trans rfl, (blk_cell BK275.out 3).trans rfl, (blk_cell BK275.out 4).trans rfl⟩ (fun hHeld => ?_)
   clear hK K
   refine norm_ (a' := ?_) ?_ ?_
   rotate_left
   ·show Act.put _ (some 7) _ = _
    simp only [Act.put, List.setIfInBounds_toArray, List.set_cons_zero, List.set_cons_succ, i64_w, i32_w]
    rfl
   refine one_ (i := 5) (N := some 23) #[true, true, true, true, true, true, false, false, false, false, true, false, false] rfl rfl (one_of HT_.out (by kernel_rfl)) (by decide) (fun K hK => ?_)
   refine goes_ Try.func11 (by kernel_rfl) rfl #[.agg #[.int .i64 a1_0, .int .i64 a1_1, .int .i64 a1_2, .int .i64 a1_3, .bool a1_4]] (by rfl) rfl rfl (by (try simp only [List.map_toArray, List.map_cons, List.map_nil]); first | done | rfl | (simp only [List.length_drop, List.length_take]; rfl)) ?_
   with_reducible refine (frisketlaw19_box.calls a1_0 a1_1 a1_2 a1_3 a1_4 t277 t278 t279 t280 t281 _ A4.out).mono ?_
   rintro e w20 ⟨rfl, hb⟩
   refine ⟨_, rfl, ?_⟩
   have n0_ := Aside0.mk (blk_below (g := gb274) (o := .cells #[.int .i64 a0_0, .int .i64 a0_1, .int .i64 a0_2] 26 (0, 0)) (by (with_reducible repeat (first | refine bN ?_ _ | refine bD ?_ | refine bA ?_ _)); exact BK274.out) hb)
   have n1_ := Aside0.mk (blk_below (g := gb275) (o := .cells #[.int .i64 a1_0, .int .i64 a1_1, .int .i64 a1_2, .int .i64 a1_3, .bool a1_4] 28 (0, 0)) (by (with_reducible repeat (first | refine bN ?_ _ | refine bD ?_ | refine bA ?_ _)); exact BK275.out) hb)
   have n2_ := Aside0.mk (blk_below (g := gb276) (o := .cells #[.int .i64 a2_0, .int .i64 a2_1, .int .i64 a2_2, .int .i64 a2_3, .bool a1_4] 28 (0, 0)) (by (with_reducible repeat (first | refine bN ?_ _ | refine bD ?_ | refine bA ?_ _)); exact BK276.out) hb)
   have n3_ := Aside0.mk (blk_below (g := gb287) (o := .cells #[.int .i64 0, .int .i64 0, .int .i64 0, .int .i64 0] 33 (0, 0)) (by (with_reducible repeat (first | refine bN ?_ _ | refine bD ?_ | refine bA ?_ _)); exact BK287.out) hb)
   have n4_ := Aside0.mk (below_step (by repeat (first | (with_reducible first | exact HB.out | apply below_alloc | apply pw_below_drewN | apply below_drew1 | refine bS ?_ GE274.out | refine bS ?_ GE275.out | refine bS ?_ GE276.out | refine bS ?_ GE287.out) | exact HB.out)) hb)
   clear BK274
   clear BK275
   clear BK276
   clear BK287
   clear HB
   have BK274 := n0_
   have BK275 := n1_
   have BK276 := n2_
   have BK287 := n3_
   have HB := n4_
   clear n0_ n1_ n2_ n3_ n4_
   (try clear hb)
   (try clear hb2)
   (try clear hk)
   (try clear hi)
   refine hK.out _ _ ⟨(blk_cell BK274.out 0).trans rfl, (blk_cell BK274.out 1).trans rfl, (blk_cell BK274.out 2).trans rfl, (blk_cell BK275.out 0).trans rfl, (blk_cell BK275.out 1).trans rfl, (blk_cell BK275.out 2).trans rfl, (blk_cell BK275.out 3).trans rfl, (blk_cell BK275.out 4).trans rfl⟩ (fun hHeld => ?_)
   clear hK K
   refine norm_ (a' := ?_) ?_ ?_
   rotate_left
   ·show Act.put _ (some 23) _ = _
    simp only [Act.put, List.setIfInBounds_toArray, List.set_cons_zero, List.set_cons_succ, i64_w, i32_w]
    rfl
   refine one_ (i := 6) (N := some 24) #[true, true, true, true, true, true, true, false, false, false, true, false, false] rfl rfl (one_of HT_.out (by kernel_rfl)) (by decide) (fun K hK => ?_)
   refine goes_ Try.func10 (by kernel_rfl) rfl #[.agg #[.int .i64 a0_0, .int .i64 a0_1], .int .i64 a0_2, .agg #[.int .i64 t277, .int .i64 t278, .int .i64 t279, .int .i64 t280, .bool t281]] (by rfl) rfl rfl (by (try simp only [List.map_toArray, List.map_cons, List.map_nil]); first | done | rfl | (simp only [List.length_drop, List.length_take]; rfl)) ?_
   with_reducible refine (place_Cells.calls a0_0 a0_1 a0_2 t277 t278 t279 t280 t281 t282 t283 t284 t285 t286 _ A5.out).mono ?_
   rintro e w21 ⟨rfl, hb⟩
   refine ⟨_, rfl, ?_⟩
   have n0_ := Aside0.mk (blk_below (g := gb274) (o := .cells #[.int .i64 a0_0, .int .i64 a0_1, .int .i64 a0_2] 26 (0, 0)) (by (with_reducible repeat (first | refine bN ?_ _ | refine bD ?_ | refine bA ?_ _)); exact BK274.out) hb)
   have n1_ := Aside0.mk (blk_below (g := gb275) (o := .cells #[.int .i64 a1_0, .int .i64 a1_1, .int .i64 a1_2, .int .i64 a1_3, .bool a1_4] 28 (0, 0)) (by (with_reducible repeat (first | refine bN ?_ _ | refine bD ?_ | refine bA ?_ _)); exact BK275.out) hb)
   have n2_ := Aside0.mk (blk_below (g := gb276) (o := .cells #[.int .i64 a2_0, .int .i64 a2_1, .int .i64 a2_2, .int .i64 a2_3, .bool a1_4] 28 (0, 0)) (by (with_reducible repeat (first | refine bN ?_ _ | refine bD ?_ | refine bA ?_ _)); exact BK276.out) hb)
   have n3_ := Aside0.mk (blk_below (g := gb287) (o := .cells #[.int .i64 0, .int .i64 0, .int .i64 0, .int .i64 0] 33 (0, 0)) (by (with_reducible repeat (first | refine bN ?_ _ | refine bD ?_ | refine bA ?_ _)); exact BK287.out) hb)
   have n4_ := Aside0.mk (below_step (by repeat (first | (with_reducible first | exact HB.out | apply below_alloc | apply pw_below_drewN | apply below_drew1 | refine bS ?_ GE274.out | refine bS ?_ GE275.out | refine bS ?_ GE276.out | refine bS ?_ GE287.out) | exact HB.out)) hb)
   clear BK274
   clear BK275
   clear BK276
   clear BK287
   clear HB
   have BK274 := n0_
   have BK275 := n1_
   have BK276 := n2_
   have BK287 := n3_
   have HB := n4_
   clear n0_ n1_ n2_ n3_ n4_
   (try clear hb)
   (try clear hb2)
   (try clear hk)
   (try clear hi)
   refine hK.out _ _ ⟨(blk_cell BK274.out 0).trans rfl, (blk_cell BK274.out 1).trans rfl, (blk_cell BK274.out 2).trans rfl, (blk_cell BK275.out 0).trans rfl, (blk_cell BK275.out 1).trans rfl, (blk_cell BK275.out 2).trans rfl, (blk_cell BK275.out 3).trans rfl, (blk_cell BK275.out 4).trans rfl⟩ (fun hHeld => ?_)
   clear hK K
   refine norm_ (a' := ?_) ?_ ?_
   rotate_left
   ·show Act.put _ (some 24) _ = _
    simp only [Act.put, List.setIfInBounds_toArray, List.set_cons_zero, List.set_cons_succ, i64_w, i32_w]
    rfl
   refine pure_ (i := 7) (N := some 17) (v := ?_) (a' := ?_) #[true, true, true, true, true, true, true, true, false, false, true, false, false] rfl rfl (any_of HT_.out (by kernel_rfl)) (fun _ _ _ h => h) (Or.inl ⟨by rfl, ?_⟩) ?_ ?_
   rotate_left
   ·intro w'
    go_simp
    with_reducible rfl
   rotate_left
   ·simp only [Act.put, List.setIfInBounds_toArray, List.set_cons_zero, List.set_cons_succ, i64_w, i32_w]
    rfl
   refine pure_ (i := 8) (N := some 25) (v := ?_) (a' := ?_) #[true, true, true, true, true, true, true, true, true, false, true, false, false] rfl rfl (any_of HT_.out (by kernel_rfl)) (fun _ _ _ h => h) (Or.inl ⟨by rfl, ?_⟩) ?_ ?_
   rotate_left
   ·intro w'
    go_simp
    with_reducible rfl
   rotate_left
   ·simp only [Act.put, List.setIfInBounds_toArray, List.set_cons_zero, List.set_cons_succ, i64_w, i32_w]
    rfl
   refine pure_ (i := 9) (N := some 26) (v := ?_) (a' := ?_) #[true, true, true, true, true, true, true, true, true, true, true, false, false] rfl rfl (any_of HT_.out (by kernel_rfl)) (fun _ _ _ h => h) (Or.inl ⟨by rfl, ?_⟩) ?_ ?_
   rotate_left
   ·intro w'
    go_simp
    with_reducible rfl
   rotate_left
   ·simp only [Act.put, List.setIfInBounds_toArray, List.set_cons_zero, List.set_cons_succ, i64_w, i32_w]
    rfl
   exact norm_ (by simp only [putAll, Act.put, List.setIfInBounds_toArray, List.set_cons_zero, List.set_cons_succ]) (hCont (gb287) _ ⟨hHeld, (by (with_reducible repeat (first | refine bN ?_ _ | refine bD ?_ | refine bA ?_ _)); exact BK274.out), (by (with_reducible repeat (first | refine bN ?_ _ | refine bD ?_ | refine bA ?_ _)); exact BK275.out), (by (with_reducible repeat (first | refine bN ?_ _ | refine bD ?_ | refine bA ?_ _)); exact BK276.out), (by (with_reducible repeat (first | refine bN ?_ _ | refine bD ?_ | refine bA ?_ _)); exact BK287.out), GW287.out, GE287.out, NB274_287.out, NB287_274.out, NB275_287.out, NB287_275.out, NB276_287.out, NB287_276.out, (by repeat (first | (with_reducible first | exact HB.out | apply below_alloc | apply pw_below_drewN | apply below_drew1 | refine bS ?_ GE274.out | refine bS ?_ GE275.out | refine bS ?_ GE276.out | refine bS ?_ GE287.out) | exact HB.out))⟩)
 rintro gb287 w22 ⟨hS_, h0_, h1_, h2_, h3_, h4_, h5_, h6_, h7_, h8_, h9_, h10_, h11_, h12_⟩
 have n0_ : Aside0 (w22.heap[gb274]? = some (.cells #[.int .i64 a0_0, .int .i64 a0_1, .int .i64 a0_2] 26 (0, 0))) := ⟨h0_⟩
 have n1_ : Aside0 (w22.heap[gb275]? = some (.cells #[.int .i64 a1_0, .int .i64 a1_1, .int .i64 a1_2, .int .i64 a1_3, .bool a1_4] 28 (0, 0))) := ⟨h1_⟩
 have n2_ : Aside0 (w22.heap[gb276]? = some (.cells #[.int .i64 a2_0, .int .i64 a2_1, .int .i64 a2_2, .int .i64 a2_3, .bool a1_4] 28 (0, 0))) := ⟨h2_⟩
 have n3_ : Aside0 (w22.heap[gb287]? = some (.cells #[.int .i64 0, .int .i64 0, .int .i64 0, .int .i64 0] 33 (0, 0))) := ⟨h3_⟩
 have n4_ : Aside0 (w.heap.size ≤ gb287) := ⟨h4_⟩
 have n5_ : Aside0 (w.heap.size ≤ gb287) := ⟨h5_⟩
 have n6_ : Aside0 (gb274 ≠ gb287) := ⟨h6_⟩
 have n7_ : Aside0 (gb287 ≠ gb274) := ⟨h7_⟩
 have n8_ : Aside0 (gb275 ≠ gb287) := ⟨h8_⟩
 have n9_ : Aside0 (gb287 ≠ gb275) := ⟨h9_⟩
 have n10_ : Aside0 (gb276 ≠ gb287) := ⟨h10_⟩
 have n11_ : Aside0 (gb287 ≠ gb276) := ⟨h11_⟩
 have n12_ : Aside0 (Below w.heap.size w w22) := ⟨h12_⟩
 clear BK274
 clear BK275
 clear BK276
 clear HB
 clear h0_ h1_ h2_ h3_ h4_ h5_ h6_ h7_ h8_ h9_ h10_ h11_ h12_
 have BK274 := n0_
 have BK275 := n1_
 have BK276 := n2_
 have BK287 := n3_
 have GW287 := n4_
 have GE287 := n5_
 have NB274_287 := n6_
 have NB287_274 := n7_
 have NB275_287 := n8_
 have NB287_275 := n9_
 have NB276_287 := n10_
 have NB287_276 := n11_
 have HB := n12_
 clear n0_ n1_ n2_ n3_ n4_ n5_ n6_ n7_ n8_ n9_ n10_ n11_ n12_
 have hHeld : w22.cell? ⟨gb274, 0, none⟩ = some (.int .i64 a0_0) ∧ w22.cell? ⟨gb274, 1, none⟩ = some (.int .i64 a0_1) ∧ w22.cell? ⟨gb274, 2, none⟩ = some (.int .i64 a0_2) ∧ w22.cell? ⟨gb275, 0, none⟩ = some (.int .i64 a1_0) ∧ w22.cell? ⟨gb275, 1, none⟩ = some (.int .i64 a1_1) ∧ w22.cell? ⟨gb275, 2, none⟩ = some (.int .i64 a1_2) ∧ w22.cell? ⟨gb275, 3, none⟩ = some (.int .i64 a1_3) ∧ w22.cell? ⟨gb275, 4, none⟩ = some (.bool a1_4) := hS_
 refine norm_ (a' := ?_) ?_ ?_
 rotate_left
 ·simp only [putAll, Act.put, List.setIfInBounds_toArray, List.set_cons_zero, List.set_cons_succ]
  rfl
 refine one_ (i := 11) (N := none) #[true, true, true, true, true, true, true, true, true, true, true, true, false] rfl rfl (one_of HT_.out (by kernel_rfl)) (by decide) (fun K hK => ?_)
 have hs23 := cI BK287.out 0 rfl
 have hfs23 := bF BK287.out 0
 have hns23_0 := NB274_287.out
 have hns23_1 := NB275_287.out
 have hns23_2 := NB276_287.out
 have hms23_0 := NB287_274.out
 have hms23_1 := NB287_275.out
 have hms23_2 := NB287_276.out
 have hs24 := cI BK287.out 1 rfl
 have hfs24 := bF BK287.out 1
 have hns24_0 := NB274_287.out
 have hns24_1 := NB275_287.out
 have hns24_2 := NB276_287.out
 have hms24_0 := NB287_274.out
 have hms24_1 := NB287_275.out
 have hms24_2 := NB287_276.out
 have hs25 := cI BK287.out 2 rfl
 have hfs25 := bF BK287.out 2
 have hns25_0 := NB274_287.out
 have hns25_1 := NB275_287.out
 have hns25_2 := NB276_287.out
 have hms25_0 := NB287_274.out
 have hms25_1 := NB287_275.out
 have hms25_2 := NB287_276.out
 have hs26 := cI BK287.out 3 rfl
 have hfs26 := bF BK287.out 3
 have hns26_0 := NB274_287.out
 have hns26_1 := NB275_287.out
 have hns26_2 := NB276_287.out
 have hms26_0 := NB287_274.out
 have hms26_1 := NB287_275.out
 have hms26_2 := NB287_276.out
 refine skip_ (w1 := ?_) (by rfl) rfl ?_ ?_
 rotate_left
 ·go_simp
  rfl
 refine hK.out _ _ ⟨((cell_far (p := ⟨gb287, _, none⟩) NB274_287.out _).trans (((cell_far (p := ⟨gb287, _, none⟩) NB274_287.out _).trans (((cell_far (p := ⟨gb287, _, none⟩) NB274_287.out _).trans (((cell_far (p := ⟨gb287, _, none⟩) NB274_287.out _).trans (hHeld.1)))))))), ((cell_far (p := ⟨gb287, _, none⟩) NB274_287.out _).trans (((cell_far (p := ⟨gb287, _, none⟩) NB274_287.out _).trans (((cell_far (p := ⟨gb287, _, none⟩) NB274_287.out _).trans (((cell_far (p := ⟨gb287, _, none⟩) NB274_287.out _).trans (hHeld.2.1)))))))), ((cell_far (p := ⟨gb287, _, none⟩) NB274_287.out _).trans (((cell_far (p := ⟨gb287, _, none⟩) NB274_287.out _).trans (((cell_far (p := ⟨gb287, _, none⟩) NB274_287.out _).trans (((cell_far (p := ⟨gb287, _, none⟩) NB274_287.out _).trans (hHeld.2.2.1)))))))), ((cell_far (p := ⟨gb287, _, none⟩) NB275_287.out _).trans (((cell_far (p := ⟨gb287, _, none⟩) NB275_287.out _).trans (((cell_far (p := ⟨gb287, _, none⟩) NB275_287.out _).trans (((cell_far (p := ⟨gb287, _, none⟩) NB275_287.out _).trans (hHeld.2.2.2.1)))))))), ((cell_far (p := ⟨gb287, _, none⟩) NB275_287.out _).trans (((cell_far (p := ⟨gb287, _, none⟩) NB275_287.out _).trans (((cell_far (p := ⟨gb287, _, none⟩) NB275_287.out _).trans (((cell_far (p := ⟨gb287, _, none⟩) NB275_287.out _).trans (hHeld.2.2.2.2.1)))))))), ((cell_far (p := ⟨gb287, _, none⟩) NB275_287.out _).trans (((cell_far (p := ⟨gb287, _, none⟩) NB275_287.out _).trans (((cell_far (p := ⟨gb287, _, none⟩) NB275_287.out _).trans (((cell_far (p := ⟨gb287, _, none⟩) NB275_287.out _).trans (hHeld.2.2.2.2.2.1)))))))), ((cell_far (p := ⟨gb287, _, none⟩) NB275_287.out _).trans (((cell_far (p := ⟨gb287, _, none⟩) NB275_287.out _).trans (((cell_far (p := ⟨gb287, _, none⟩) NB275_287.out _).trans (((cell_far (p := ⟨gb287, _, none⟩) NB275_287.out _).trans (hHeld.2.2.2.2.2.2.1)))))))), ((cell_far (p := ⟨gb287, _, none⟩) NB275_287.out _).trans (((cell_far (p := ⟨gb287, _, none⟩) NB275_287.out _).trans (((cell_far (p := ⟨gb287, _, none⟩) NB275_287.out _).trans (((cell_far (p := ⟨gb287, _, none⟩) NB275_287.out _).trans (hHeld.2.2.2.2.2.2.2))))))))⟩ (fun hHeld => ?_)
 clear hK K
 refine pure_ (i := 12) (N := some 8) (v := ?_) (a' := ?_) #[true, true, true, true, true, true, true, true, true, true, true, true, true] rfl rfl (any_of HT_.out (by kernel_rfl)) (fun _ _ _ h => h) (Or.inl ⟨by rfl, ?_⟩) ?_ ?_
 rotate_left
 ·intro w'
  go_simp
  with_reducible rfl
 rotate_left
 ·simp only [Act.put, List.setIfInBounds_toArray, List.set_cons_zero, List.set_cons_succ, i64_w, i32_w]
  rfl
 refine done_ (done_of HT_.out (by kernel_rfl)) ?_
 try go_wp2
 have n0_ : Aside0 (((((w22.setCell ⟨gb287, 0, none⟩ (.int .i64 t282)).setCell ⟨gb287, 1, none⟩ (.int .i64 t283)).setCell ⟨gb287, 2, none⟩ (.int .i64 t284)).setCell ⟨gb287, 3, none⟩ (.int .i64 t285)).heap[gb274]? = some (.cells #[.int .i64 a0_0, .int .i64 a0_1, .int .i64 a0_2] 26 (0, 0))) := ⟨by (with_reducible repeat (first | refine bN ?_ _ | refine bD ?_ | refine bA ?_ _)); refine blk_far ?_ NB274_287.out _; (with_reducible repeat (first | refine bN ?_ _ | refine bD ?_ | refine bA ?_ _)); refine blk_far ?_ NB274_287.out _; (with_reducible repeat (first | refine bN ?_ _ | refine bD ?_ | refine bA ?_ _)); refine blk_far ?_ NB274_287.out _; (with_reducible repeat (first | refine bN ?_ _ | refine bD ?_ | refine bA ?_ _)); refine blk_far ?_ NB274_287.out _; (with_reducible repeat (first | refine bN ?_ _ | refine bD ?_ | refine bA ?_ _)); exact BK274.out⟩
 have n1_ : Aside0 (((((w22.setCell ⟨gb287, 0, none⟩ (.int .i64 t282)).setCell ⟨gb287, 1, none⟩ (.int .i64 t283)).setCell ⟨gb287, 2, none⟩ (.int .i64 t284)).setCell ⟨gb287, 3, none⟩ (.int .i64 t285)).heap[gb275]? = some (.cells #[.int .i64 a1_0, .int .i64 a1_1, .int .i64 a1_2, .int .i64 a1_3, .bool a1_4] 28 (0, 0))) := ⟨by (with_reducible repeat (first | refine bN ?_ _ | refine bD ?_ | refine bA ?_ _)); refine blk_far ?_ NB275_287.out _; (with_reducible repeat (first | refine bN ?_ _ | refine bD ?_ | refine bA ?_ _)); refine blk_far ?_ NB275_287.out _; (with_reducible repeat (first | refine bN ?_ _ | refine bD ?_ | refine bA ?_ _)); refine blk_far ?_ NB275_287.out _; (with_reducible repeat (first | refine bN ?_ _ | refine bD ?_ | refine bA ?_ _)); refine blk_far ?_ NB275_287.out _; (with_reducible repeat (first | refine bN ?_ _ | refine bD ?_ | refine bA ?_ _)); exact BK275.out⟩
 have n2_ : Aside0 (((((w22.setCell ⟨gb287, 0, none⟩ (.int .i64 t282)).setCell ⟨gb287, 1, none⟩ (.int .i64 t283)).setCell ⟨gb287, 2, none⟩ (.int .i64 t284)).setCell ⟨gb287, 3, none⟩ (.int .i64 t285)).heap[gb276]? = some (.cells #[.int .i64 a2_0, .int .i64 a2_1, .int .i64 a2_2, .int .i64 a2_3, .bool a1_4] 28 (0, 0))) := ⟨by (with_reducible repeat (first | refine bN ?_ _ | refine bD ?_ | refine bA ?_ _)); refine blk_far ?_ NB276_287.out _; (with_reducible repeat (first | refine bN ?_ _ | refine bD ?_ | refine bA ?_ _)); refine blk_far ?_ NB276_287.out _; (with_reducible repeat (first | refine bN ?_ _ | refine bD ?_ | refine bA ?_ _)); refine blk_far ?_ NB276_287.out _; (with_reducible repeat (first | refine bN ?_ _ | refine bD ?_ | refine bA ?_ _)); refine blk_far ?_ NB276_287.out _; (with_reducible repeat (first | refine bN ?_ _ | refine bD ?_ | refine bA ?_ _)); exact BK276.out⟩
 have n3_ : Aside0 (((((w22.setCell ⟨gb287, 0, none⟩ (.int .i64 t282)).setCell ⟨gb287, 1, none⟩ (.int .i64 t283)).setCell ⟨gb287, 2, none⟩ (.int .i64 t284)).setCell ⟨gb287, 3, none⟩ (.int .i64 t285)).heap[gb287]? = some (.cells #[.int .i64 t282, .int .i64 t283, .int .i64 t284, .int .i64 t285] 33 (0, 0))) := ⟨by (with_reducible repeat (first | refine bN ?_ _ | refine bD ?_ | refine bA ?_ _)); refine blk_put (cs := #[.int .i64 t282, .int .i64 t283, .int .i64 t284, .int .i64 0]) ?_ 3 _ rfl; (with_reducible repeat (first | refine bN ?_ _ | refine bD ?_ | refine bA ?_ _)); refine blk_put (cs := #[.int .i64 t282, .int .i64 t283, .int .i64 0, .int .i64 0]) ?_ 2 _ rfl; (with_reducible repeat (first | refine bN ?_ _ | refine bD ?_ | refine bA ?_ _)); refine blk_put (cs := #[.int .i64 t282, .int .i64 0, .int .i64 0, .int .i64 0]) ?_ 1 _ rfl; (with_reducible repeat (first | refine bN ?_ _ | refine bD ?_ | refine bA ?_ _)); refine blk_put (cs := #[.int .i64 0, .int .i64 0, .int .i64 0, .int .i64 0]) ?_ 0 _ rfl; (with_reducible repeat (first | refine bN ?_ _ | refine bD ?_ | refine bA ?_ _)); exact BK287.out⟩
 have n4_ : Aside0 (Below w.heap.size w ((((w22.setCell ⟨gb287, 0, none⟩ (.int .i64 t282)).setCell ⟨gb287, 1, none⟩ (.int .i64 t283)).setCell ⟨gb287, 2, none⟩ (.int .i64 t284)).setCell ⟨gb287, 3, none⟩ (.int .i64 t285))) := ⟨by repeat (first | (with_reducible first | exact HB.out | apply below_alloc | apply pw_below_drewN | apply below_drew1 | refine bS ?_ GE274.out | refine bS ?_ GE275.out | refine bS ?_ GE276.out | refine bS ?_ GE287.out) | exact HB.out)⟩
 (try clear BK274)
 (try clear BK275)
 (try clear BK276)
 (try clear BK287)
 (try clear HB)
 generalize ((((w22.setCell ⟨gb287, 0, none⟩ (.int .i64 t282)).setCell ⟨gb287, 1, none⟩ (.int .i64 t283)).setCell ⟨gb287, 2, none⟩ (.int .i64 t284)).setCell ⟨gb287, 3, none⟩ (.int .i64 t285)) = w27 at n0_ n1_ n2_ n3_ n4_ ⊢
 have BK274 := n0_
 have BK275 := n1_
 have BK276 := n2_
 have BK287 := n3_
 have HB := n4_
 clear n0_ n1_ n2_ n3_ n4_
 have n0_ := Aside0.mk (blk_drew BK274.out)
 have n1_ := Aside0.mk (blk_drew BK275.out)
 have n2_ := Aside0.mk (blk_drew BK276.out)
 have n3_ := Aside0.mk (blk_drew BK287.out)
 have n4_ := Aside0.mk (below_drew1 HB.out)
 clear BK274
 clear BK275
 clear BK276
 clear BK287
 clear HB
 have BK274 := n0_
 have BK275 := n1_
 have BK276 := n2_
 have BK287 := n3_
 have HB := n4_
 clear n0_ n1_ n2_ n3_ n4_
 refine start_ (n := 13) (S := fun w' => w'.cell? ⟨gb274, 0, none⟩ = some (.int .i64 a0_0) ∧ w'.cell? ⟨gb274, 1, none⟩ = some (.int .i64 a0_1) ∧ w'.cell? ⟨gb274, 2, none⟩ = some (.int .i64 a0_2) ∧ w'.cell? ⟨gb276, 0, none⟩ = some (.int .i64 a2_0) ∧ w'.cell? ⟨gb276, 1, none⟩ = some (.int .i64 a2_1) ∧ w'.cell? ⟨gb276, 2, none⟩ = some (.int .i64 a2_2) ∧ w'.cell? ⟨gb276, 3, none⟩ = some (.int .i64 a2_3) ∧ w'.cell? ⟨gb276, 4, none⟩ = some (.bool a1_4)) (ds := []) #[false, false, false, false, false, false, false, false, false, false, false, false, false] (by kernel_rfl) rfl rfl ⟨(blk_cell BK274.out 0).trans rfl, (blk_cell BK274.out 1).trans rfl, (blk_cell BK274.out 2).trans rfl, (blk_cell BK276.out 0).trans rfl, (blk_cell BK276.out 1).trans rfl, (blk_cell BK276.out 2).trans rfl, (blk_cell BK276.out 3).trans rfl, (blk_cell BK276.out 4).trans rfl⟩ (fun hHeld => ?_); refine with_tabW frisketlaw19_PlaceApart.tab3 frisketlaw19_PlaceApart.bits3 (fun HT_ HW_ => ?_)
 generalize w27.drew = w28 at BK274 BK275 BK276 BK287 HB hHeld ⊢
 refine pure_ (i := 0) (N := some 28) (v := ?_) (a' := ?_) #[true, false, false, false, false, false, false, false, false, false, false, false, false] rfl rfl (any_of HT_.out (by kernel_rfl)) (fun _ _ _ h => h) (Or.inl ⟨by rfl, ?_⟩) ?_ ?_
 rotate_left
 ·intro w'
  go_simp
  with_reducible rfl
 rotate_left
 ·simp only [Act.put, List.setIfInBounds_toArray, List.set_cons_zero, List.set_cons_succ, i64_w, i32_w]
  rfl
 refine pure_ (i := 2) (N := some 30) (v := ?_) (a' := ?_) #[true, false, true, false, false, false, false, false, false, false, false, false, false] rfl rfl (any_of HT_.out (by kernel_rfl)) (fun _ _ _ h => h) (Or.inl ⟨by rfl, ?_⟩) ?_ ?_
 rotate_left
 ·intro w'
  go_simp
  with_reducible rfl
 rotate_left
 ·simp only [Act.put, List.setIfInBounds_toArray, List.set_cons_zero, List.set_cons_succ, i64_w, i32_w]
  rfl
 refine take_ (i := 1) (N := some 29) (v := ?_) (a' := ?_) #[true, true, true, false, false, false, false, false, false, false, false, false, false] rfl rfl (take_ofW HT_.out HW_.out (by kernel_rfl)) (fun _ _ _ h => h) (Or.inl ⟨by rfl, ?_⟩) hHeld ?_ ?_
 rotate_left
 ·rintro w' ⟨s0, s1, s2, s3, s4, s5, s6, s7⟩
  go_simp
  with_reducible rfl
 rotate_left
 ·simp only [Act.put, List.setIfInBounds_toArray, List.set_cons_zero, List.set_cons_succ, i64_w, i32_w]
  rfl
 refine take_ (i := 3) (N := some 31) (v := ?_) (a' := ?_) #[true, true, true, true, false, false, false, false, false, false, false, false, false] rfl rfl (take_ofW HT_.out HW_.out (by kernel_rfl)) (fun _ _ _ h => h) (Or.inl ⟨by rfl, ?_⟩) hHeld ?_ ?_
 rotate_left
 ·rintro w' ⟨s0, s1, s2, s3, s4, s5, s6, s7⟩
  go_simp
  with_reducible rfl
 rotate_left
 ·simp only [Act.put, List.setIfInBounds_toArray, List.set_cons_zero, List.set_cons_succ, i64_w, i32_w]
  rfl
 refine take_ (i := 4) (N := some 32) (v := ?_) (a' := ?_) #[true, true, true, true, true, false, false, false, false, false, false, false, false] rfl rfl (take_ofW HT_.out HW_.out (by kernel_rfl)) (fun _ _ _ h => h) (Or.inl ⟨by rfl, ?_⟩) hHeld ?_ ?_
 rotate_left
 ·rintro w' ⟨s0, s1, s2, s3, s4, s5, s6, s7⟩
  go_simp
  with_reducible rfl
 rotate_left
 ·simp only [Act.put, List.setIfInBounds_toArray, List.set_cons_zero, List.set_cons_succ, i64_w, i32_w]
  rfl
 refine join_ (σ := Nat) 2 #[true, true, true, true, true, true, true, true, true, true, true, false, false] (fun s_ => [(33, .agg #[.int .i64 t288, .int .i64 t289, .int .i64 t290, .int .i64 t291, .bool t292]), (34, .tuple #[.agg #[.int .i64 t293, .int .i64 t294, .int .i64 t295, .int .i64 t296], .int .i64 t297]), (9, .pointer (some ⟨s_, 0, none⟩)), (27, .tuple #[.agg #[.int .i64 t293, .int .i64 t294, .int .i64 t295, .int .i64 t296], .int .i64 t297]), (35, .agg #[.int .i64 t293, .int .i64 t294, .int .i64 t295, .int .i64 t296]), (36, .int .i64 t297)]) (fun s_ w' => (w'.cell? ⟨gb274, 0, none⟩ = some (.int .i64 a0_0) ∧ w'.cell? ⟨gb274, 1, none⟩ = some (.int .i64 a0_1) ∧ w'.cell? ⟨gb274, 2, none⟩ = some (.int .i64 a0_2) ∧ w'.cell? ⟨gb276, 0, none⟩ = some (.int .i64 a2_0) ∧ w'.cell? ⟨gb276, 1, none⟩ = some (.int .i64 a2_1) ∧ w'.cell? ⟨gb276, 2, none⟩ = some (.int .i64 a2_2) ∧ w'.cell? ⟨gb276, 3, none⟩ = some (.int .i64 a2_3) ∧ w'.cell? ⟨gb276, 4, none⟩ = some (.bool a1_4)) ∧ (w'.heap[gb274]? = some (.cells #[.int .i64 a0_0, .int .i64 a0_1, .int .i64 a0_2] 26 (0, 0))) ∧ (w'.heap[gb275]? = some (.cells #[.int .i64 a1_0, .int .i64 a1_1, .int .i64 a1_2, .int .i64 a1_3, .bool a1_4] 28 (0, 0))) ∧ (w'.heap[gb276]? = some (.cells #[.int .i64 a2_0, .int .i64 a2_1, .int .i64 a2_2, .int .i64 a2_3, .bool a1_4] 28 (0, 0))) ∧ (w'.heap[gb287]? = some (.cells #[.int .i64 t282, .int .i64 t283, .int .i64 t284, .int .i64 t285] 33 (0, 0))) ∧ (w'.heap[s_]? = some (.cells #[.int .i64 0, .int .i64 0, .int .i64 0, .int .i64 0] 33 (0, 0))) ∧ (w.heap.size ≤ s_) ∧ (w.heap.size ≤ s_) ∧ (gb274 ≠ s_) ∧ (s_ ≠ gb274) ∧ (gb275 ≠ s_) ∧ (s_ ≠ gb275) ∧ (gb276 ≠ s_) ∧ (s_ ≠ gb276) ∧ (gb287 ≠ s_) ∧ (s_ ≠ gb287) ∧ (Below w.heap.size w w')) ?_ ?_
 rotate_left
 ·intro hCont
  refine two_ (i := 5) (j := 10) (Ni := some 33) (Nj := some 9) #[true, true, true, true, true, true, false, false, false, false, false, false, false] #[true, true, true, true, true, false, false, false, false, false, true, false, false] rfl rfl rfl rfl (two_of HT_.out (by kernel_rfl)) (by decide) (by decide) (fun K hK => ?_) (fun K hK => ?_)
  ·skip
   refine goes_ Try.func11 (by kernel_rfl) rfl #[.agg #[.int .i64 a2_0, .int .i64 a2_1, .int .i64 a2_2, .int .i64 a2_3, .bool a1_4]] (by rfl) rfl rfl (by (try simp only [List.map_toArray, List.map_cons, List.map_nil]); first | done | rfl | (simp only [List.length_drop, List.length_take]; rfl)) ?_
   with_reducible refine (frisketlaw19_box.calls a2_0 a2_1 a2_2 a2_3 a1_4 t288 t289 t290 t291 t292 _ A6.out).mono ?_
   rintro e w29 ⟨rfl, hb⟩
   refine ⟨_, rfl, ?_⟩
   have n0_ := Aside0.mk (blk_below (g := gb274) (o := .cells #[.int .i64 a0_0, .int .i64 a0_1, .int .i64 a0_2] 26 (0, 0)) (by (with_reducible repeat (first | refine bN ?_ _ | refine bD ?_ | refine bA ?_ _)); exact BK274.out) hb)
   have n1_ := Aside0.mk (blk_below (g := gb275) (o := .cells #[.int .i64 a1_0, .int .i64 a1_1, .int .i64 a1_2, .int .i64 a1_3, .bool a1_4] 28 (0, 0)) (by (with_reducible repeat (first | refine bN ?_ _ | refine bD ?_ | refine bA ?_ _)); exact BK275.out) hb)
   have n2_ := Aside0.mk (blk_below (g := gb276) (o := .cells #[.int .i64 a2_0, .int .i64 a2_1, .int .i64 a2_2, .int .i64 a2_3, .bool a1_4] 28 (0, 0)) (by (with_reducible repeat (first | refine bN ?_ _ | refine bD ?_ | refine bA ?_ _)); exact BK276.out) hb)
   have n3_ := Aside0.mk (blk_below (g := gb287) (o := .cells #[.int .i64 t282, .int .i64 t283, .int .i64 t284, .int .i64 t285] 33 (0, 0)) (by (with_reducible repeat (first | refine bN ?_ _ | refine bD ?_ | refine bA ?_ _)); exact BK287.out) hb)
   have n4_ := Aside0.mk (below_step (by repeat (first | (with_reducible first | exact HB.out | apply below_alloc | apply pw_below_drewN | apply below_drew1 | refine bS ?_ GE274.out | refine bS ?_ GE275.out | refine bS ?_ GE276.out | refine bS ?_ GE287.out) | exact HB.out)) hb)
   clear BK274
   clear BK275
   clear BK276
   clear BK287
   clear HB
   have BK274 := n0_
   have BK275 := n1_
   have BK276 := n2_
   have BK287 := n3_
   have HB := n4_
   clear n0_ n1_ n2_ n3_ n4_
   (try clear hb)
   (try clear hb2)
   (try clear hk)
   (try clear hi)
   refine hK.out _ _ ⟨(blk_cell BK274.out 0).trans rfl, (blk_cell BK274.out 1).trans rfl, (blk_cell BK274.out 2).trans rfl, (blk_cell BK276.out 0).trans rfl, (blk_cell BK276.out 1).trans rfl, (blk_cell BK276.out 2).trans rfl, (blk_cell BK276.out 3).trans rfl, (blk_cell BK276.out 4).trans rfl⟩ (fun hHeld => ?_)
   clear hK K
   refine norm_ (a' := ?_) ?_ ?_
   rotate_left
   ·show Act.put _ (some 33) _ = _
    simp only [Act.put, List.setIfInBounds_toArray, List.set_cons_zero, List.set_cons_succ, i64_w, i32_w]
    rfl
   refine two_ (i := 6) (j := 10) (Ni := some 34) (Nj := some 9) #[true, true, true, true, true, true, true, false, false, false, false, false, false] #[true, true, true, true, true, true, false, false, false, false, true, false, false] rfl rfl rfl rfl (two_of HT_.out (by kernel_rfl)) (by decide) (by decide) (fun K hK => ?_) (fun K hK => ?_)
   ·skip
    refine goes_ Try.func10 (by kernel_rfl) rfl #[.agg #[.int .i64 a0_0, .int .i64 a0_1], .int .i64 a0_2, .agg #[.int .i64 t288, .int .i64 t289, .int .i64 t290, .int .i64 t291, .bool t292]] (by rfl) rfl rfl (by (try simp only [List.map_toArray, List.map_cons, List.map_nil]); first | done | rfl | (simp only [List.length_drop, List.length_take]; rfl)) ?_
    with_reducible refine (place_Cells.calls a0_0 a0_1 a0_2 t288 t289 t290 t291 t292 t293 t294 t295 t296 t297 _ A7.out).mono ?_
    rintro e w30 ⟨rfl, hb⟩
    refine ⟨_, rfl, ?_⟩
    have n0_ := Aside0.mk (blk_below (g := gb274) (o := .cells #[.int .i64 a0_0, .int .i64 a0_1, .int .i64 a0_2] 26 (0, 0)) (by (with_reducible repeat (first | refine bN ?_ _ | refine bD ?_ | refine bA ?_ _)); exact BK274.out) hb)
    have n1_ := Aside0.mk (blk_below (g := gb275) (o := .cells #[.int .i64 a1_0, .int .i64 a1_1, .int .i64 a1_2, .int .i64 a1_3, .bool a1_4] 28 (0, 0)) (by (with_reducible repeat (first | refine bN ?_ _ | refine bD ?_ | refine bA ?_ _)); exact BK275.out) hb)
    have n2_ := Aside0.mk (blk_below (g := gb276) (o := .cells #[.int .i64 a2_0, .int .i64 a2_1, .int .i64 a2_2, .int .i64 a2_3, .bool a1_4] 28 (0, 0)) (by (with_reducible repeat (first | refine bN ?_ _ | refine bD ?_ | refine bA ?_ _)); exact BK276.out) hb)
    have n3_ := Aside0.mk (blk_below (g := gb287) (o := .cells #[.int .i64 t282, .int .i64 t283, .int .i64 t284, .int .i64 t285] 33 (0, 0)) (by (with_reducible repeat (first | refine bN ?_ _ | refine bD ?_ | refine bA ?_ _)); exact BK287.out) hb)
    have n4_ := Aside0.mk (below_step (by repeat (first | (with_reducible first | exact HB.out | apply below_alloc | apply pw_below_drewN | apply below_drew1 | refine bS ?_ GE274.out | refine bS ?_ GE275.out | refine bS ?_ GE276.out | refine bS ?_ GE287.out) | exact HB.out)) hb)
    clear BK274
    clear BK275
    clear BK276
    clear BK287
    clear HB
    have BK274 := n0_
    have BK275 := n1_
    have BK276 := n2_
    have BK287 := n3_
    have HB := n4_
    clear n0_ n1_ n2_ n3_ n4_
    (try clear hb)
    (try clear hb2)
    (try clear hk)
    (try clear hi)
    refine hK.out _ _ ⟨(blk_cell BK274.out 0).trans rfl, (blk_cell BK274.out 1).trans rfl, (blk_cell BK274.out 2).trans rfl, (blk_cell BK276.out 0).trans rfl, (blk_cell BK276.out 1).trans rfl, (blk_cell BK276.out 2).trans rfl, (blk_cell BK276.out 3).trans rfl, (blk_cell BK276.out 4).trans rfl⟩ (fun hHeld => ?_)
    clear hK K
    refine norm_ (a' := ?_) ?_ ?_
    rotate_left
    ·show Act.put _ (some 34) _ = _
     simp only [Act.put, List.setIfInBounds_toArray, List.set_cons_zero, List.set_cons_succ, i64_w, i32_w]
     rfl
    refine pure_ (i := 7) (N := some 27) (v := ?_) (a' := ?_) #[true, true, true, true, true, true, true, true, false, false, false, false, false] rfl rfl (any_of HT_.out (by kernel_rfl)) (fun _ _ _ h => h) (Or.inl ⟨by rfl, ?_⟩) ?_ ?_
    rotate_left
    ·intro w'
     go_simp
     with_reducible rfl
    rotate_left
    ·simp only [Act.put, List.setIfInBounds_toArray, List.set_cons_zero, List.set_cons_succ, i64_w, i32_w]
     rfl
    refine pure_ (i := 8) (N := some 35) (v := ?_) (a' := ?_) #[true, true, true, true, true, true, true, true, true, false, false, false, false] rfl rfl (any_of HT_.out (by kernel_rfl)) (fun _ _ _ h => h) (Or.inl ⟨by rfl, ?_⟩) ?_ ?_
    rotate_left
    ·intro w'
     go_simp
     with_reducible rfl
    rotate_left
    ·simp only [Act.put, List.setIfInBounds_toArray, List.set_cons_zero, List.set_cons_succ, i64_w, i32_w]
     rfl
    refine pure_ (i := 9) (N := some 36) (v := ?_) (a' := ?_) #[true, true, true, true, true, true, true, true, true, true, false, false, false] rfl rfl (any_of HT_.out (by kernel_rfl)) (fun _ _ _ h => h) (Or.inl ⟨by rfl, ?_⟩) ?_ ?_
    rotate_left
    ·intro w'
     go_simp
     with_reducible rfl
    rotate_left
    ·simp only [Act.put, List.setIfInBounds_toArray, List.set_cons_zero, List.set_cons_succ, i64_w, i32_w]
     rfl
    refine one_ (i := 10) (N := some 9) #[true, true, true, true, true, true, true, true, true, true, true, false, false] rfl rfl (one_of HT_.out (by kernel_rfl)) (by decide) (fun K hK => ?_)
    refine box_step ?hg (N := 9) ?hd (cs := #[.int .i64 0, .int .i64 0, .int .i64 0, .int .i64 0]) (t := 33) ?hr ?_; (case hd => rfl); (case hg => rfl); (case hr => first | (go_simp; done) | (go_simp; rfl))
    intro gb298 hg w31 hbox hb
    have n0_ := Aside0.mk (blk_below (g := gb274) (o := .cells #[.int .i64 a0_0, .int .i64 a0_1, .int .i64 a0_2] 26 (0, 0)) (by (with_reducible repeat (first | refine bN ?_ _ | refine bD ?_ | refine bA ?_ _)); exact BK274.out) hb)
    have n1_ := Aside0.mk (blk_below (g := gb275) (o := .cells #[.int .i64 a1_0, .int .i64 a1_1, .int .i64 a1_2, .int .i64 a1_3, .bool a1_4] 28 (0, 0)) (by (with_reducible repeat (first | refine bN ?_ _ | refine bD ?_ | refine bA ?_ _)); exact BK275.out) hb)
    have n2_ := Aside0.mk (blk_below (g := gb276) (o := .cells #[.int .i64 a2_0, .int .i64 a2_1, .int .i64 a2_2, .int .i64 a2_3, .bool a1_4] 28 (0, 0)) (by (with_reducible repeat (first | refine bN ?_ _ | refine bD ?_ | refine bA ?_ _)); exact BK276.out) hb)
    have n3_ := Aside0.mk (blk_below (g := gb287) (o := .cells #[.int .i64 t282, .int .i64 t283, .int .i64 t284, .int .i64 t285] 33 (0, 0)) (by (with_reducible repeat (first | refine bN ?_ _ | refine bD ?_ | refine bA ?_ _)); exact BK287.out) hb)
    have n4_ := Aside0.mk (below_step (by repeat (first | (with_reducible first | exact HB.out | apply below_alloc | apply pw_below_drewN | apply below_drew1 | refine bS ?_ GE274.out | refine bS ?_ GE275.out | refine bS ?_ GE276.out | refine bS ?_ GE287.out) | exact HB.out)) hb)
    have n5_ := Aside0.mk (hbox)
    have n6_ := Aside0.mk ((by rw [hg]; exact (below_size (by repeat (first | (with_reducible first | exact HB.out | apply below_alloc | apply pw_below_drewN | apply below_drew1 | refine bS ?_ GE274.out | refine bS ?_ GE275.out | refine bS ?_ GE276.out | refine bS ?_ GE287.out) | exact HB.out))) : w.heap.size ≤ gb298))
    have n7_ := Aside0.mk ((by rw [hg]; exact (below_size (by repeat (first | (with_reducible first | exact HB.out | apply below_alloc | apply pw_below_drewN | apply below_drew1 | refine bS ?_ GE274.out | refine bS ?_ GE275.out | refine bS ?_ GE276.out | refine bS ?_ GE287.out) | exact HB.out))) : w.heap.size ≤ gb298))
    have n8_ := Aside0.mk ((by rw [hg]; exact Nat.ne_of_lt (blk_lt (g := gb274) (o := .cells #[.int .i64 a0_0, .int .i64 a0_1, .int .i64 a0_2] 26 (0, 0)) (by (with_reducible repeat (first | refine bN ?_ _ | refine bD ?_ | refine bA ?_ _)); exact BK274.out)) : gb274 ≠ gb298))
    have n9_ := Aside0.mk ((by rw [hg]; exact Nat.ne_of_gt (blk_lt (g := gb274) (o := .cells #[.int .i64 a0_0, .int .i64 a0_1, .int .i64 a0_2] 26 (0, 0)) (by (with_reducible repeat (first | refine bN ?_ _ | refine bD ?_ | refine bA ?_ _)); exact BK274.out)) : gb298 ≠ gb274))
    have n10_ := Aside0.mk ((by rw [hg]; exact Nat.ne_of_lt (blk_lt (g := gb275) (o := .cells #[.int .i64 a1_0, .int .i64 a1_1, .int .i64 a1_2, .int .i64 a1_3, .bool a1_4] 28 (0, 0)) (by (with_reducible repeat (first | refine bN ?_ _ | refine bD ?_ | refine bA ?_ _)); exact BK275.out)) : gb275 ≠ gb298))
    have n11_ := Aside0.mk ((by rw [hg]; exact Nat.ne_of_gt (blk_lt (g := gb275) (o := .cells #[.int .i64 a1_0, .int .i64 a1_1, .int .i64 a1_2, .int .i64 a1_3, .bool a1_4] 28 (0, 0)) (by (with_reducible repeat (first | refine bN ?_ _ | refine bD ?_ | refine bA ?_ _)); exact BK275.out)) : gb298 ≠ gb275))
    have n12_ := Aside0.mk ((by rw [hg]; exact Nat.ne_of_lt (blk_lt (g := gb276) (o := .cells #[.int .i64 a2_0, .int .i64 a2_1, .int .i64 a2_2, .int .i64 a2_3, .bool a1_4] 28 (0, 0)) (by (with_reducible repeat (first | refine bN ?_ _ | refine bD ?_ | refine bA ?_ _)); exact BK276.out)) : gb276 ≠ gb298))
    have n13_ := Aside0.mk ((by rw [hg]; exact Nat.ne_of_gt (blk_lt (g := gb276) (o := .cells #[.int .i64 a2_0, .int .i64 a2_1, .int .i64 a2_2, .int .i64 a2_3, .bool a1_4] 28 (0, 0)) (by (with_reducible repeat (first | refine bN ?_ _ | refine bD ?_ | refine bA ?_ _)); exact BK276.out)) : gb298 ≠ gb276))
    have n14_ := Aside0.mk ((by rw [hg]; exact Nat.ne_of_lt (blk_lt (g := gb287) (o := .cells #[.int .i64 t282, .int .i64 t283, .int .i64 t284, .int .i64 t285] 33 (0, 0)) (by (with_reducible repeat (first | refine bN ?_ _ | refine bD ?_ | refine bA ?_ _)); exact BK287.out)) : gb287 ≠ gb298))
    have n15_ := Aside0.mk ((by rw [hg]; exact Nat.ne_of_gt (blk_lt (g := gb287) (o := .cells #[.int .i64 t282, .int .i64 t283, .int .i64 t284, .int .i64 t285] 33 (0, 0)) (by (with_reducible repeat (first | refine bN ?_ _ | refine bD ?_ | refine bA ?_ _)); exact BK287.out)) : gb298 ≠ gb287))
    clear BK274
    clear BK275
    clear BK276
    clear BK287
    clear HB
    have BK274 := n0_
    have BK275 := n1_
    have BK276 := n2_
    have BK287 := n3_
    have HB := n4_
    have BK298 := n5_
    have GW298 := n6_
    have GE298 := n7_
    have NB274_298 := n8_
    have NB298_274 := n9_
    have NB275_298 := n10_
    have NB298_275 := n11_
    have NB276_298 := n12_
    have NB298_276 := n13_
    have NB287_298 := n14_
    have NB298_287 := n15_
    clear n0_ n1_ n2_ n3_ n4_ n5_ n6_ n7_ n8_ n9_ n10_ n11_ n12_ n13_ n14_ n15_
    clear hb hbox hg
    refine hK.out _ _ ⟨(blk_cell BK274.out 0).trans rfl, (blk_cell BK274.out 1).trans rfl, (blk_cell BK274.out 2).trans rfl, (blk_cell BK276.out 0).trans rfl, (blk_cell BK276.out 1).trans rfl, (blk_cell BK276.out 2).trans rfl, (blk_cell BK276.out 3).trans rfl, (blk_cell BK276.out 4).trans rfl⟩ (fun hHeld => ?_)
    clear hK K
    refine norm_ (a' := ?_) ?_ ?_
    rotate_left
    ·show Act.put _ (some 9) _ = _
     simp only [Act.put, List.setIfInBounds_toArray, List.set_cons_zero, List.set_cons_succ, i64_w, i32_w]
     rfl
    exact norm_ (by simp only [putAll, Act.put, List.setIfInBounds_toArray, List.set_cons_zero, List.set_cons_succ]) (hCont (gb298) _ ⟨hHeld, (by (with_reducible repeat (first | refine bN ?_ _ | refine bD ?_ | refine bA ?_ _)); exact BK274.out), (by (with_reducible repeat (first | refine bN ?_ _ | refine bD ?_ | refine bA ?_ _)); exact BK275.out), (by (with_reducible repeat (first | refine bN ?_ _ | refine bD ?_ | refine bA ?_ _)); exact BK276.out), (by (with_reducible repeat (first | refine bN ?_ _ | refine bD ?_ | refine bA ?_ _)); exact BK287.out), (by (with_reducible repeat (first | refine bN ?_ _ | refine bD ?_ | refine bA ?_ _)); exact BK298.out), GW298.out, GE298.out, NB274_298.out, NB298_274.out, NB275_298.out, NB298_275.out, NB276_298.out, NB298_276.out, NB287_298.out, NB298_287.out, (by repeat (first | (with_reducible first | exact HB.out | apply below_alloc | apply pw_below_drewN | apply below_drew1 | refine bS ?_ GE274.out | refine bS ?_ GE275.out | refine bS ?_ GE276.out | refine bS ?_ GE287.out | refine bS ?_ GE298.out) | exact HB.out))⟩)
   ·skip
    refine box_step ?hg (N := 9) ?hd (cs := #[.int .i64 0, .int .i64 0, .int .i64 0, .int .i64 0]) (t := 33) ?hr ?_; (case hd => rfl); (case hg => rfl); (case hr => first | (go_simp; done) | (go_simp; rfl))
    intro gb298 hg w30 hbox hb
    have n0_ := Aside0.mk (blk_below (g := gb274) (o := .cells #[.int .i64 a0_0, .int .i64 a0_1, .int .i64 a0_2] 26 (0, 0)) (by (with_reducible repeat (first | refine bN ?_ _ | refine bD ?_ | refine bA ?_ _)); exact BK274.out) hb)
    have n1_ := Aside0.mk (blk_below (g := gb275) (o := .cells #[.int .i64 a1_0, .int .i64 a1_1, .int .i64 a1_2, .int .i64 a1_3, .bool a1_4] 28 (0, 0)) (by (with_reducible repeat (first | refine bN ?_ _ | refine bD ?_ | refine bA ?_ _)); exact BK275.out) hb)
    have n2_ := Aside0.mk (blk_below (g := gb276) (o := .cells #[.int .i64 a2_0, .int .i64 a2_1, .int .i64 a2_2, .int .i64 a2_3, .bool a1_4] 28 (0, 0)) (by (with_reducible repeat (first | refine bN ?_ _ | refine bD ?_ | refine bA ?_ _)); exact BK276.out) hb)
    have n3_ := Aside0.mk (blk_below (g := gb287) (o := .cells #[.int .i64 t282, .int .i64 t283, .int .i64 t284, .int .i64 t285] 33 (0, 0)) (by (with_reducible repeat (first | refine bN ?_ _ | refine bD ?_ | refine bA ?_ _)); exact BK287.out) hb)
    have n4_ := Aside0.mk (below_step (by repeat (first | (with_reducible first | exact HB.out | apply below_alloc | apply pw_below_drewN | apply below_drew1 | refine bS ?_ GE274.out | refine bS ?_ GE275.out | refine bS ?_ GE276.out | refine bS ?_ GE287.out) | exact HB.out)) hb)
    have n5_ := Aside0.mk (hbox)
    have n6_ := Aside0.mk ((by rw [hg]; exact (below_size (by repeat (first | (with_reducible first | exact HB.out | apply below_alloc | apply pw_below_drewN | apply below_drew1 | refine bS ?_ GE274.out | refine bS ?_ GE275.out | refine bS ?_ GE276.out | refine bS ?_ GE287.out) | exact HB.out))) : w.heap.size ≤ gb298))
    have n7_ := Aside0.mk ((by rw [hg]; exact (below_size (by repeat (first | (with_reducible first | exact HB.out | apply below_alloc | apply pw_below_drewN | apply below_drew1 | refine bS ?_ GE274.out | refine bS ?_ GE275.out | refine bS ?_ GE276.out | refine bS ?_ GE287.out) | exact HB.out))) : w.heap.size ≤ gb298))
    have n8_ := Aside0.mk ((by rw [hg]; exact Nat.ne_of_lt (blk_lt (g := gb274) (o := .cells #[.int .i64 a0_0, .int .i64 a0_1, .int .i64 a0_2] 26 (0, 0)) (by (with_reducible repeat (first | refine bN ?_ _ | refine bD ?_ | refine bA ?_ _)); exact BK274.out)) : gb274 ≠ gb298))
    have n9_ := Aside0.mk ((by rw [hg]; exact Nat.ne_of_gt (blk_lt (g := gb274) (o := .cells #[.int .i64 a0_0, .int .i64 a0_1, .int .i64 a0_2] 26 (0, 0)) (by (with_reducible repeat (first | refine bN ?_ _ | refine bD ?_ | refine bA ?_ _)); exact BK274.out)) : gb298 ≠ gb274))
    have n10_ := Aside0.mk ((by rw [hg]; exact Nat.ne_of_lt (blk_lt (g := gb275) (o := .cells #[.int .i64 a1_0, .int .i64 a1_1, .int .i64 a1_2, .int .i64 a1_3, .bool a1_4] 28 (0, 0)) (by (with_reducible repeat (first | refine bN ?_ _ | refine bD ?_ | refine bA ?_ _)); exact BK275.out)) : gb275 ≠ gb298))
    have n11_ := Aside0.mk ((by rw [hg]; exact Nat.ne_of_gt (blk_lt (g := gb275) (o := .cells #[.int .i64 a1_0, .int .i64 a1_1, .int .i64 a1_2, .int .i64 a1_3, .bool a1_4] 28 (0, 0)) (by (with_reducible repeat (first | refine bN ?_ _ | refine bD ?_ | refine bA ?_ _)); exact BK275.out)) : gb298 ≠ gb275))
    have n12_ := Aside0.mk ((by rw [hg]; exact Nat.ne_of_lt (blk_lt (g := gb276) (o := .cells #[.int .i64 a2_0, .int .i64 a2_1, .int .i64 a2_2, .int .i64 a2_3, .bool a1_4] 28 (0, 0)) (by (with_reducible repeat (first | refine bN ?_ _ | refine bD ?_ | refine bA ?_ _)); exact BK276.out)) : gb276 ≠ gb298))
    have n13_ := Aside0.mk ((by rw [hg]; exact Nat.ne_of_gt (blk_lt (g := gb276) (o := .cells #[.int .i64 a2_0, .int .i64 a2_1, .int .i64 a2_2, .int .i64 a2_3, .bool a1_4] 28 (0, 0)) (by (with_reducible repeat (first | refine bN ?_ _ | refine bD ?_ | refine bA ?_ _)); exact BK276.out)) : gb298 ≠ gb276))
    have n14_ := Aside0.mk ((by rw [hg]; exact Nat.ne_of_lt (blk_lt (g := gb287) (o := .cells #[.int .i64 t282, .int .i64 t283, .int .i64 t284, .int .i64 t285] 33 (0, 0)) (by (with_reducible repeat (first | refine bN ?_ _ | refine bD ?_ | refine bA ?_ _)); exact BK287.out)) : gb287 ≠ gb298))
    have n15_ := Aside0.mk ((by rw [hg]; exact Nat.ne_of_gt (blk_lt (g := gb287) (o := .cells #[.int .i64 t282, .int .i64 t283, .int .i64 t284, .int .i64 t285] 33 (0, 0)) (by (with_reducible repeat (first | refine bN ?_ _ | refine bD ?_ | refine bA ?_ _)); exact BK287.out)) : gb298 ≠ gb287))
    clear BK274
    clear BK275
    clear BK276
    clear BK287
    clear HB
    have BK274 := n0_
    have BK275 := n1_
    have BK276 := n2_
    have BK287 := n3_
    have HB := n4_
    have BK298 := n5_
    have GW298 := n6_
    have GE298 := n7_
    have NB274_298 := n8_
    have NB298_274 := n9_
    have NB275_298 := n10_
    have NB298_275 := n11_
    have NB276_298 := n12_
    have NB298_276 := n13_
    have NB287_298 := n14_
    have NB298_287 := n15_
    clear n0_ n1_ n2_ n3_ n4_ n5_ n6_ n7_ n8_ n9_ n10_ n11_ n12_ n13_ n14_ n15_
    clear hb hbox hg
    refine hK.out _ _ ⟨(blk_cell BK274.out 0).trans rfl, (blk_cell BK274.out 1).trans rfl, (blk_cell BK274.out 2).trans rfl, (blk_cell BK276.out 0).trans rfl, (blk_cell BK276.out 1).trans rfl, (blk_cell BK276.out 2).trans rfl, (blk_cell BK276.out 3).trans rfl, (blk_cell BK276.out 4).trans rfl⟩ (fun hHeld => ?_)
    clear hK K
    refine norm_ (a' := ?_) ?_ ?_
    rotate_left
    ·show Act.put _ (some 9) _ = _
     simp only [Act.put, List.setIfInBounds_toArray, List.set_cons_zero, List.set_cons_succ, i64_w, i32_w]
     rfl
    refine one_ (i := 6) (N := some 34) #[true, true, true, true, true, true, true, false, false, false, true, false, false] rfl rfl (one_of HT_.out (by kernel_rfl)) (by decide) (fun K hK => ?_)
    refine goes_ Try.func10 (by kernel_rfl) rfl #[.agg #[.int .i64 a0_0, .int .i64 a0_1], .int .i64 a0_2, .agg #[.int .i64 t288, .int .i64 t289, .int .i64 t290, .int .i64 t291, .bool t292]] (by rfl) rfl rfl (by (try simp only [List.map_toArray, List.map_cons, List.map_nil]); first | done | rfl | (simp only [List.length_drop, List.length_take]; rfl)) ?_
    with_reducible refine (place_Cells.calls a0_0 a0_1 a0_2 t288 t289 t290 t291 t292 t293 t294 t295 t296 t297 _ A7.out).mono ?_
    rintro e w31 ⟨rfl, hb⟩
    refine ⟨_, rfl, ?_⟩
    have n0_ := Aside0.mk (blk_below (g := gb274) (o := .cells #[.int .i64 a0_0, .int .i64 a0_1, .int .i64 a0_2] 26 (0, 0)) (by (with_reducible repeat (first | refine bN ?_ _ | refine bD ?_ | refine bA ?_ _)); exact BK274.out) hb)
    have n1_ := Aside0.mk (blk_below (g := gb275) (o := .cells #[.int .i64 a1_0, .int .i64 a1_1, .int .i64 a1_2, .int .i64 a1_3, .bool a1_4] 28 (0, 0)) (by (with_reducible repeat (first | refine bN ?_ _ | refine bD ?_ | refine bA ?_ _)); exact BK275.out) hb)
    have n2_ := Aside0.mk (blk_below (g := gb276) (o := .cells #[.int .i64 a2_0, .int .i64 a2_1, .int .i64 a2_2, .int .i64 a2_3, .bool a1_4] 28 (0, 0)) (by (with_reducible repeat (first | refine bN ?_ _ | refine bD ?_ | refine bA ?_ _)); exact BK276.out) hb)
    have n3_ := Aside0.mk (blk_below (g := gb287) (o := .cells #[.int .i64 t282, .int .i64 t283, .int .i64 t284, .int .i64 t285] 33 (0, 0)) (by (with_reducible repeat (first | refine bN ?_ _ | refine bD ?_ | refine bA ?_ _)); exact BK287.out) hb)
    have n4_ := Aside0.mk (blk_below (g := gb298) (o := .cells #[.int .i64 0, .int .i64 0, .int .i64 0, .int .i64 0] 33 (0, 0)) (by (with_reducible repeat (first | refine bN ?_ _ | refine bD ?_ | refine bA ?_ _)); exact BK298.out) hb)
    have n5_ := Aside0.mk (below_step (by repeat (first | (with_reducible first | exact HB.out | apply below_alloc | apply pw_below_drewN | apply below_drew1 | refine bS ?_ GE274.out | refine bS ?_ GE275.out | refine bS ?_ GE276.out | refine bS ?_ GE287.out | refine bS ?_ GE298.out) | exact HB.out)) hb)
    clear BK274
    clear BK275
    clear BK276
    clear BK287
    clear BK298
    clear HB
    have BK274 := n0_
    have BK275 := n1_
    have BK276 := n2_
    have BK287 := n3_
    have BK298 := n4_
    have HB := n5_
    clear n0_ n1_ n2_ n3_ n4_ n5_
    (try clear hb)
    (try clear hb2)
    (try clear hk)
    (try clear hi)
    refine hK.out _ _ ⟨(blk_cell BK274.out 0).trans rfl, (blk_cell BK274.out 1).trans rfl, (blk_cell BK274.out 2).trans rfl, (blk_cell BK276.out 0).trans rfl, (blk_cell BK276.out 1).trans rfl, (blk_cell BK276.out 2).trans rfl, (blk_cell BK276.out 3).trans rfl, (blk_cell BK276.out 4).trans rfl⟩ (fun hHeld => ?_)
    clear hK K
    refine norm_ (a' := ?_) ?_ ?_
    rotate_left
    ·show Act.put _ (some 34) _ = _
     simp only [Act.put, List.setIfInBounds_toArray, List.set_cons_zero, List.set_cons_succ, i64_w, i32_w]
     rfl
    refine pure_ (i := 7) (N := some 27) (v := ?_) (a' := ?_) #[true, true, true, true, true, true, true, true, false, false, true, false, false] rfl rfl (any_of HT_.out (by kernel_rfl)) (fun _ _ _ h => h) (Or.inl ⟨by rfl, ?_⟩) ?_ ?_
    rotate_left
    ·intro w'
     go_simp
     with_reducible rfl
    rotate_left
    ·simp only [Act.put, List.setIfInBounds_toArray, List.set_cons_zero, List.set_cons_succ, i64_w, i32_w]
     rfl
    refine pure_ (i := 8) (N := some 35) (v := ?_) (a' := ?_) #[true, true, true, true, true, true, true, true, true, false, true, false, false] rfl rfl (any_of HT_.out (by kernel_rfl)) (fun _ _ _ h => h) (Or.inl ⟨by rfl, ?_⟩) ?_ ?_
    rotate_left
    ·intro w'
     go_simp
     with_reducible rfl
    rotate_left
    ·simp only [Act.put, List.setIfInBounds_toArray, List.set_cons_zero, List.set_cons_succ, i64_w, i32_w]
     rfl
    refine pure_ (i := 9) (N := some 36) (v := ?_) (a' := ?_) #[true, true, true, true, true, true, true, true, true, true, true, false, false] rfl rfl (any_of HT_.out (by kernel_rfl)) (fun _ _ _ h => h) (Or.inl ⟨by rfl, ?_⟩) ?_ ?_
    rotate_left
    ·intro w'
     go_simp
     with_reducible rfl
    rotate_left
    ·simp only [Act.put, List.setIfInBounds_toArray, List.set_cons_zero, List.set_cons_succ, i64_w, i32_w]
     rfl
    exact norm_ (by simp only [putAll, Act.put, List.setIfInBounds_toArray, List.set_cons_zero, List.set_cons_succ]) (hCont (gb298) _ ⟨hHeld, (by (with_reducible repeat (first | refine bN ?_ _ | refine bD ?_ | refine bA ?_ _)); exact BK274.out), (by (with_reducible repeat (first | refine bN ?_ _ | refine bD ?_ | refine bA ?_ _)); exact BK275.out), (by (with_reducible repeat (first | refine bN ?_ _ | refine bD ?_ | refine bA ?_ _)); exact BK276.out), (by (with_reducible repeat (first | refine bN ?_ _ | refine bD ?_ | refine bA ?_ _)); exact BK287.out), (by (with_reducible repeat (first | refine bN ?_ _ | refine bD ?_ | refine bA ?_ _)); exact BK298.out), GW298.out, GE298.out, NB274_298.out, NB298_274.out, NB275_298.out, NB298_275.out, NB276_298.out, NB298_276.out, NB287_298.out, NB298_287.out, (by repeat (first | (with_reducible first | exact HB.out | apply below_alloc | apply pw_below_drewN | apply below_drew1 | refine bS ?_ GE274.out | refine bS ?_ GE275.out | refine bS ?_ GE276.out | refine bS ?_ GE287.out | refine bS ?_ GE298.out) | exact HB.out))⟩)
  ·skip
   refine box_step ?hg (N := 9) ?hd (cs := #[.int .i64 0, .int .i64 0, .int .i64 0, .int .i64 0]) (t := 33) ?hr ?_; (case hd => rfl); (case hg => rfl); (case hr => first | (go_simp; done) | (go_simp; rfl))
   intro gb298 hg w29 hbox hb
   have n0_ := Aside0.mk (blk_below (g := gb274) (o := .cells #[.int .i64 a0_0, .int .i64 a0_1, .int .i64 a0_2] 26 (0, 0)) (by (with_reducible repeat (first | refine bN ?_ _ | refine bD ?_ | refine bA ?_ _)); exact BK274.out) hb)
   have n1_ := Aside0.mk (blk_below (g := gb275) (o := .cells #[.int .i64 a1_0, .int .i64 a1_1, .int .i64 a1_2, .int .i64 a1_3, .bool a1_4] 28 (0, 0)) (by (with_reducible repeat (first | refine bN ?_ _ | refine bD ?_ | refine bA ?_ _)); exact BK275.out) hb)
   have n2_ := Aside0.mk (blk_below (g := gb276) (o := .cells #[.int .i64 a2_0, .int .i64 a2_1, .int .i64 a2_2, .int .i64 a2_3, .bool a1_4] 28 (0, 0)) (by (with_reducible repeat (first | refine bN ?_ _ | refine bD ?_ | refine bA ?_ _)); exact BK276.out) hb)
   have n3_ := Aside0.mk (blk_below (g := gb287) (o := .cells #[.int .i64 t282, .int .i64 t283, .int .i64 t284, .int .i64 t285] 33 (0, 0)) (by (with_reducible repeat (first | refine bN ?_ _ | refine bD ?_ | refine bA ?_ _)); exact BK287.out) hb)
   have n4_ := Aside0.mk (below_step (by repeat (first | (with_reducible first | exact HB.out | apply below_alloc | apply pw_below_drewN | apply below_drew1 | refine bS ?_ GE274.out | refine bS ?_ GE275.out | refine bS ?_ GE276.out | refine bS ?_ GE287.out) | exact HB.out)) hb)
   have n5_ := Aside0.mk (hbox)
   have n6_ := Aside0.mk ((by rw [hg]; exact (below_size (by repeat (first | (with_reducible first | exact HB.out | apply below_alloc | apply pw_below_drewN | apply below_drew1 | refine bS ?_ GE274.out | refine bS ?_ GE275.out | refine bS ?_ GE276.out | refine bS ?_ GE287.out) | exact HB.out))) : w.heap.size ≤ gb298))
   have n7_ := Aside0.mk ((by rw [hg]; exact (below_size (by repeat (first | (with_reducible first | exact HB.out | apply below_alloc | apply pw_below_drewN | apply below_drew1 | refine bS ?_ GE274.out | refine bS ?_ GE275.out | refine bS ?_ GE276.out | refine bS ?_ GE287.out) | exact HB.out))) : w.heap.size ≤ gb298))
   have n8_ := Aside0.mk ((by rw [hg]; exact Nat.ne_of_lt (blk_lt (g := gb274) (o := .cells #[.int .i64 a0_0, .int .i64 a0_1, .int .i64 a0_2] 26 (0, 0)) (by (with_reducible repeat (first | refine bN ?_ _ | refine bD ?_ | refine bA ?_ _)); exact BK274.out)) : gb274 ≠ gb298))
   have n9_ := Aside0.mk ((by rw [hg]; exact Nat.ne_of_gt (blk_lt (g := gb274) (o := .cells #[.int .i64 a0_0, .int .i64 a0_1, .int .i64 a0_2] 26 (0, 0)) (by (with_reducible repeat (first | refine bN ?_ _ | refine bD ?_ | refine bA ?_ _)); exact BK274.out)) : gb298 ≠ gb274))
   have n10_ := Aside0.mk ((by rw [hg]; exact Nat.ne_of_lt (blk_lt (g := gb275) (o := .cells #[.int .i64 a1_0, .int .i64 a1_1, .int .i64 a1_2, .int .i64 a1_3, .bool a1_4] 28 (0, 0)) (by (with_reducible repeat (first | refine bN ?_ _ | refine bD ?_ | refine bA ?_ _)); exact BK275.out)) : gb275 ≠ gb298))
   have n11_ := Aside0.mk ((by rw [hg]; exact Nat.ne_of_gt (blk_lt (g := gb275) (o := .cells #[.int .i64 a1_0, .int .i64 a1_1, .int .i64 a1_2, .int .i64 a1_3, .bool a1_4] 28 (0, 0)) (by (with_reducible repeat (first | refine bN ?_ _ | refine bD ?_ | refine bA ?_ _)); exact BK275.out)) : gb298 ≠ gb275))
   have n12_ := Aside0.mk ((by rw [hg]; exact Nat.ne_of_lt (blk_lt (g := gb276) (o := .cells #[.int .i64 a2_0, .int .i64 a2_1, .int .i64 a2_2, .int .i64 a2_3, .bool a1_4] 28 (0, 0)) (by (with_reducible repeat (first | refine bN ?_ _ | refine bD ?_ | refine bA ?_ _)); exact BK276.out)) : gb276 ≠ gb298))
   have n13_ := Aside0.mk ((by rw [hg]; exact Nat.ne_of_gt (blk_lt (g := gb276) (o := .cells #[.int .i64 a2_0, .int .i64 a2_1, .int .i64 a2_2, .int .i64 a2_3, .bool a1_4] 28 (0, 0)) (by (with_reducible repeat (first | refine bN ?_ _ | refine bD ?_ | refine bA ?_ _)); exact BK276.out)) : gb298 ≠ gb276))
   have n14_ := Aside0.mk ((by rw [hg]; exact Nat.ne_of_lt (blk_lt (g := gb287) (o := .cells #[.int .i64 t282, .int .i64 t283, .int .i64 t284, .int .i64 t285] 33 (0, 0)) (by (with_reducible repeat (first | refine bN ?_ _ | refine bD ?_ | refine bA ?_ _)); exact BK287.out)) : gb287 ≠ gb298))
   have n15_ := Aside0.mk ((by rw [hg]; exact Nat.ne_of_gt (blk_lt (g := gb287) (o := .cells #[.int .i64 t282, .int .i64 t283, .int .i64 t284, .int .i64 t285] 33 (0, 0)) (by (with_reducible repeat (first | refine bN ?_ _ | refine bD ?_ | refine bA ?_ _)); exact BK287.out)) : gb298 ≠ gb287))
   clear BK274
   clear BK275
   clear BK276
   clear BK287
   clear HB
   have BK274 := n0_
   have BK275 := n1_
   have BK276 := n2_
   have BK287 := n3_
   have HB := n4_
   have BK298 := n5_
   have GW298 := n6_
   have GE298 := n7_
   have NB274_298 := n8_
   have NB298_274 := n9_
   have NB275_298 := n10_
   have NB298_275 := n11_
   have NB276_298 := n12_
   have NB298_276 := n13_
   have NB287_298 := n14_
   have NB298_287 := n15_
   clear n0_ n1_ n2_ n3_ n4_ n5_ n6_ n7_ n8_ n9_ n10_ n11_ n12_ n13_ n14_ n15_
   clear hb hbox hg
   refine hK.out _ _ ⟨(blk_cell BK274.out 0).trans rfl, (blk_cell BK274.out 1).trans rfl, (blk_cell BK274.out 2).trans rfl, (blk_cell BK276.out 0).trans rfl, (blk_cell BK276.out 1).trans rfl, (blk_cell BK276.out 2).trans rfl, (blk_cell BK276.out 3).trans rfl, (blk_cell BK276.out 4).trans rfl⟩ (fun hHeld => ?_)
   clear hK K
   refine norm_ (a' := ?_) ?_ ?_
   rotate_left
   ·show Act.put _ (some 9) _ = _
    simp only [Act.put, List.setIfInBounds_toArray, List.set_cons_zero, List.set_cons_succ, i64_w, i32_w]
    rfl
   refine one_ (i := 5) (N := some 33) #[true, true, true, true, true, true, false, false, false, false, true, false, false] rfl rfl (one_of HT_.out (by kernel_rfl)) (by decide) (fun K hK => ?_)
   refine goes_ Try.func11 (by kernel_rfl) rfl #[.agg #[.int .i64 a2_0, .int .i64 a2_1, .int .i64 a2_2, .int .i64 a2_3, .bool a1_4]] (by rfl) rfl rfl (by (try simp only [List.map_toArray, List.map_cons, List.map_nil]); first | done | rfl | (simp only [List.length_drop, List.length_take]; rfl)) ?_
   with_reducible refine (frisketlaw19_box.calls a2_0 a2_1 a2_2 a2_3 a1_4 t288 t289 t290 t291 t292 _ A6.out).mono ?_
   rintro e w30 ⟨rfl, hb⟩
   refine ⟨_, rfl, ?_⟩
   have n0_ := Aside0.mk (blk_below (g := gb274) (o := .cells #[.int .i64 a0_0, .int .i64 a0_1, .int .i64 a0_2] 26 (0, 0)) (by (with_reducible repeat (first | refine bN ?_ _ | refine bD ?_ | refine bA ?_ _)); exact BK274.out) hb)
   have n1_ := Aside0.mk (blk_below (g := gb275) (o := .cells #[.int .i64 a1_0, .int .i64 a1_1, .int .i64 a1_2, .int .i64 a1_3, .bool a1_4] 28 (0, 0)) (by (with_reducible repeat (first | refine bN ?_ _ | refine bD ?_ | refine bA ?_ _)); exact BK275.out) hb)
   have n2_ := Aside0.mk (blk_below (g := gb276) (o := .cells #[.int .i64 a2_0, .int .i64 a2_1, .int .i64 a2_2, .int .i64 a2_3, .bool a1_4] 28 (0, 0)) (by (with_reducible repeat (first | refine bN ?_ _ | refine bD ?_ | refine bA ?_ _)); exact BK276.out) hb)
   have n3_ := Aside0.mk (blk_below (g := gb287) (o := .cells #[.int .i64 t282, .int .i64 t283, .int .i64 t284, .int .i64 t285] 33 (0, 0)) (by (with_reducible repeat (first | refine bN ?_ _ | refine bD ?_ | refine bA ?_ _)); exact BK287.out) hb)
   have n4_ := Aside0.mk (blk_below (g := gb298) (o := .cells #[.int .i64 0, .int .i64 0, .int .i64 0, .int .i64 0] 33 (0, 0)) (by (with_reducible repeat (first | refine bN ?_ _ | refine bD ?_ | refine bA ?_ _)); exact BK298.out) hb)
   have n5_ := Aside0.mk (below_step (by repeat (first | (with_reducible first | exact HB.out | apply below_alloc | apply pw_below_drewN | apply below_drew1 | refine bS ?_ GE274.out | refine bS ?_ GE275.out | refine bS ?_ GE276.out | refine bS ?_ GE287.out | refine bS ?_ GE298.out) | exact HB.out)) hb)
   clear BK274
   clear BK275
   clear BK276
   clear BK287
   clear BK298
   clear HB
   have BK274 := n0_
   have BK275 := n1_
   have BK276 := n2_
   have BK287 := n3_
   have BK298 := n4_
   have HB := n5_
   clear n0_ n1_ n2_ n3_ n4_ n5_
   (try clear hb)
   (try clear hb2)
   (try clear hk)
   (try clear hi)
   refine hK.out _ _ ⟨(blk_cell BK274.out 0).trans rfl, (blk_cell BK274.out 1).trans rfl, (blk_cell BK274.out 2).trans rfl, (blk_cell BK276.out 0).trans rfl, (blk_cell BK276.out 1).trans rfl, (blk_cell BK276.out 2).trans rfl, (blk_cell BK276.out 3).trans rfl, (blk_cell BK276.out 4).trans rfl⟩ (fun hHeld => ?_)
   clear hK K
   refine norm_ (a' := ?_) ?_ ?_
   rotate_left
   ·show Act.put _ (some 33) _ = _
    simp only [Act.put, List.setIfInBounds_toArray, List.set_cons_zero, List.set_cons_succ, i64_w, i32_w]
    rfl
   refine one_ (i := 6) (N := some 34) #[true, true, true, true, true, true, true, false, false, false, true, false, false] rfl rfl (one_of HT_.out (by kernel_rfl)) (by decide) (fun K hK => ?_)
   refine goes_ Try.func10 (by kernel_rfl) rfl #[.agg #[.int .i64 a0_0, .int .i64 a0_1], .int .i64 a0_2, .agg #[.int .i64 t288, .int .i64 t289, .int .i64 t290, .int .i64 t291, .bool t292]] (by rfl) rfl rfl (by (try simp only [List.map_toArray, List.map_cons, List.map_nil]); first | done | rfl | (simp only [List.length_drop, List.length_take]; rfl)) ?_
   with_reducible refine (place_Cells.calls a0_0 a0_1 a0_2 t288 t289 t290 t291 t292 t293 t294 t295 t296 t297 _ A7.out).mono ?_
   rintro e w31 ⟨rfl, hb⟩
   refine ⟨_, rfl, ?_⟩
   have n0_ := Aside0.mk (blk_below (g := gb274) (o := .cells #[.int .i64 a0_0, .int .i64 a0_1, .int .i64 a0_2] 26 (0, 0)) (by (with_reducible repeat (first | refine bN ?_ _ | refine bD ?_ | refine bA ?_ _)); exact BK274.out) hb)
   have n1_ := Aside0.mk (blk_below (g := gb275) (o := .cells #[.int .i64 a1_0, .int .i64 a1_1, .int .i64 a1_2, .int .i64 a1_3, .bool a1_4] 28 (0, 0)) (by (with_reducible repeat (first | refine bN ?_ _ | refine bD ?_ | refine bA ?_ _)); exact BK275.out) hb)
   have n2_ := Aside0.mk (blk_below (g := gb276) (o := .cells #[.int .i64 a2_0, .int .i64 a2_1, .int .i64 a2_2, .int .i64 a2_3, .bool a1_4] 28 (0, 0)) (by (with_reducible repeat (first | refine bN ?_ _ | refine bD ?_ | refine bA ?_ _)); exact BK276.out) hb)
   have n3_ := Aside0.mk (blk_below (g := gb287) (o := .cells #[.int .i64 t282, .int .i64 t283, .int .i64 t284, .int .i64 t285] 33 (0, 0)) (by (with_reducible repeat (first | refine bN ?_ _ | refine bD ?_ | refine bA ?_ _)); exact BK287.out) hb)
   have n4_ := Aside0.mk (blk_below (g := gb298) (o := .cells #[.int .i64 0, .int .i64 0, .int .i64 0, .int .i64 0] 33 (0, 0)) (by (with_reducible repeat (first | refine bN ?_ _ | refine bD ?_ | refine bA ?_ _)); exact BK298.out) hb)
   have n5_ := Aside0.mk (below_step (by repeat (first | (with_reducible first | exact HB.out | apply below_alloc | apply pw_below_drewN | apply below_drew1 | refine bS ?_ GE274.out | refine bS ?_ GE275.out | refine bS ?_ GE276.out | refine bS ?_ GE287.out | refine bS ?_ GE298.out) | exact HB.out)) hb)
   clear BK274
   clear BK275
   clear BK276
   clear BK287
   clear BK298
   clear HB
   have BK274 := n0_
   have BK275 := n1_
   have BK276 := n2_
   have BK287 := n3_
   have BK298 := n4_
   have HB := n5_
   clear n0_ n1_ n2_ n3_ n4_ n5_
   (try clear hb)
   (try clear hb2)
   (try clear hk)
   (try clear hi)
   refine hK.out _ _ ⟨(blk_cell BK274.out 0).trans rfl, (blk_cell BK274.out 1).trans rfl, (blk_cell BK274.out 2).trans rfl, (blk_cell BK276.out 0).trans rfl, (blk_cell BK276.out 1).trans rfl, (blk_cell BK276.out 2).trans rfl, (blk_cell BK276.out 3).trans rfl, (blk_cell BK276.out 4).trans rfl⟩ (fun hHeld => ?_)
   clear hK K
   refine norm_ (a' := ?_) ?_ ?_
   rotate_left
   ·show Act.put _ (some 34) _ = _
    simp only [Act.put, List.setIfInBounds_toArray, List.set_cons_zero, List.set_cons_succ, i64_w, i32_w]
    rfl
   refine pure_ (i := 7) (N := some 27) (v := ?_) (a' := ?_) #[true, true, true, true, true, true, true, true, false, false, true, false, false] rfl rfl (any_of HT_.out (by kernel_rfl)) (fun _ _ _ h => h) (Or.inl ⟨by rfl, ?_⟩) ?_ ?_
   rotate_left
   ·intro w'
    go_simp
    with_reducible rfl
   rotate_left
   ·simp only [Act.put, List.setIfInBounds_toArray, List.set_cons_zero, List.set_cons_succ, i64_w, i32_w]
    rfl
   refine pure_ (i := 8) (N := some 35) (v := ?_) (a' := ?_) #[true, true, true, true, true, true, true, true, true, false, true, false, false] rfl rfl (any_of HT_.out (by kernel_rfl)) (fun _ _ _ h => h) (Or.inl ⟨by rfl, ?_⟩) ?_ ?_
   rotate_left
   ·intro w'
    go_simp
    with_reducible rfl
   rotate_left
   ·simp only [Act.put, List.setIfInBounds_toArray, List.set_cons_zero, List.set_cons_succ, i64_w, i32_w]
    rfl
   refine pure_ (i := 9) (N := some 36) (v := ?_) (a' := ?_) #[true, true, true, true, true, true, true, true, true, true, true, false, false] rfl rfl (any_of HT_.out (by kernel_rfl)) (fun _ _ _ h => h) (Or.inl ⟨by rfl, ?_⟩) ?_ ?_
   rotate_left
   ·intro w'
    go_simp
    with_reducible rfl
   rotate_left
   ·simp only [Act.put, List.setIfInBounds_toArray, List.set_cons_zero, List.set_cons_succ, i64_w, i32_w]
    rfl
   exact norm_ (by simp only [putAll, Act.put, List.setIfInBounds_toArray, List.set_cons_zero, List.set_cons_succ]) (hCont (gb298) _ ⟨hHeld, (by (with_reducible repeat (first | refine bN ?_ _ | refine bD ?_ | refine bA ?_ _)); exact BK274.out), (by (with_reducible repeat (first | refine bN ?_ _ | refine bD ?_ | refine bA ?_ _)); exact BK275.out), (by (with_reducible repeat (first | refine bN ?_ _ | refine bD ?_ | refine bA ?_ _)); exact BK276.out), (by (with_reducible repeat (first | refine bN ?_ _ | refine bD ?_ | refine bA ?_ _)); exact BK287.out), (by (with_reducible repeat (first | refine bN ?_ _ | refine bD ?_ | refine bA ?_ _)); exact BK298.out), GW298.out, GE298.out, NB274_298.out, NB298_274.out, NB275_298.out, NB298_275.out, NB276_298.out, NB298_276.out, NB287_298.out, NB298_287.out, (by repeat (first | (with_reducible first | exact HB.out | apply below_alloc | apply pw_below_drewN | apply below_drew1 | refine bS ?_ GE274.out | refine bS ?_ GE275.out | refine bS ?_ GE276.out | refine bS ?_ GE287.out | refine bS ?_ GE298.out) | exact HB.out))⟩)
 rintro gb298 w32 ⟨hS_, h0_, h1_, h2_, h3_, h4_, h5_, h6_, h7_, h8_, h9_, h10_, h11_, h12_, h13_, h14_, h15_⟩
 have n0_ : Aside0 (w32.heap[gb274]? = some (.cells #[.int .i64 a0_0, .int .i64 a0_1, .int .i64 a0_2] 26 (0, 0))) := ⟨h0_⟩
 have n1_ : Aside0 (w32.heap[gb275]? = some (.cells #[.int .i64 a1_0, .int .i64 a1_1, .int .i64 a1_2, .int .i64 a1_3, .bool a1_4] 28 (0, 0))) := ⟨h1_⟩
 have n2_ : Aside0 (w32.heap[gb276]? = some (.cells #[.int .i64 a2_0, .int .i64 a2_1, .int .i64 a2_2, .int .i64 a2_3, .bool a1_4] 28 (0, 0))) := ⟨h2_⟩
 have n3_ : Aside0 (w32.heap[gb287]? = some (.cells #[.int .i64 t282, .int .i64 t283, .int .i64 t284, .int .i64 t285] 33 (0, 0))) := ⟨h3_⟩
 have n4_ : Aside0 (w32.heap[gb298]? = some (.cells #[.int .i64 0, .int .i64 0, .int .i64 0, .int .i64 0] 33 (0, 0))) := ⟨h4_⟩
 have n5_ : Aside0 (w.heap.size ≤ gb298) := ⟨h5_⟩
 have n6_ : Aside0 (w.heap.size ≤ gb298) := ⟨h6_⟩
 have n7_ : Aside0 (gb274 ≠ gb298) := ⟨h7_⟩
 have n8_ : Aside0 (gb298 ≠ gb274) := ⟨h8_⟩
 have n9_ : Aside0 (gb275 ≠ gb298) := ⟨h9_⟩
 have n10_ : Aside0 (gb298 ≠ gb275) := ⟨h10_⟩
 have n11_ : Aside0 (gb276 ≠ gb298) := ⟨h11_⟩
 have n12_ : Aside0 (gb298 ≠ gb276) := ⟨h12_⟩
 have n13_ : Aside0 (gb287 ≠ gb298) := ⟨h13_⟩
 have n14_ : Aside0 (gb298 ≠ gb287) := ⟨h14_⟩
 have n15_ : Aside0 (Below w.heap.size w w32) := ⟨h15_⟩
 clear BK274
 clear BK275
 clear BK276
 clear BK287
 clear HB
 clear h0_ h1_ h2_ h3_ h4_ h5_ h6_ h7_ h8_ h9_ h10_ h11_ h12_ h13_ h14_ h15_
 have BK274 := n0_
 have BK275 := n1_
 have BK276 := n2_
 have BK287 := n3_
 have BK298 := n4_
 have GW298 := n5_
 have GE298 := n6_
 have NB274_298 := n7_
 have NB298_274 := n8_
 have NB275_298 := n9_
 have NB298_275 := n10_
 have NB276_298 := n11_
 have NB298_276 := n12_
 have NB287_298 := n13_
 have NB298_287 := n14_
 have HB := n15_
 clear n0_ n1_ n2_ n3_ n4_ n5_ n6_ n7_ n8_ n9_ n10_ n11_ n12_ n13_ n14_ n15_
 have hHeld : w32.cell? ⟨gb274, 0, none⟩ = some (.int .i64 a0_0) ∧ w32.cell? ⟨gb274, 1, none⟩ = some (.int .i64 a0_1) ∧ w32.cell? ⟨gb274, 2, none⟩ = some (.int .i64 a0_2) ∧ w32.cell? ⟨gb276, 0, none⟩ = some (.int .i64 a2_0) ∧ w32.cell? ⟨gb276, 1, none⟩ = some (.int .i64 a2_1) ∧ w32.cell? ⟨gb276, 2, none⟩ = some (.int .i64 a2_2) ∧ w32.cell? ⟨gb276, 3, none⟩ = some (.int .i64 a2_3) ∧ w32.cell? ⟨gb276, 4, none⟩ = some (.bool a1_4) := hS_
 refine norm_ (a' := ?_) ?_ ?_
 rotate_left
 ·simp only [putAll, Act.put, List.setIfInBounds_toArray, List.set_cons_zero, List.set_cons_succ]
  rfl
 refine one_ (i := 11) (N := none) #[true, true, true, true, true, true, true, true, true, true, true, true, false] rfl rfl (one_of HT_.out (by kernel_rfl)) (by decide) (fun K hK => ?_)
 have hs33 := cI BK298.out 0 rfl
 have hfs33 := bF BK298.out 0
 have hns33_0 := NB274_298.out
 have hns33_1 := NB275_298.out
 have hns33_2 := NB276_298.out
 have hns33_3 := NB287_298.out
 have hms33_0 := NB298_274.out
 have hms33_1 := NB298_275.out
 have hms33_2 := NB298_276.out
 have hms33_3 := NB298_287.out
 have hs34 := cI BK298.out 1 rfl
 have hfs34 := bF BK298.out 1
 have hns34_0 := NB274_298.out
 have hns34_1 := NB275_298.out
 have hns34_2 := NB276_298.out
 have hns34_3 := NB287_298.out
 have hms34_0 := NB298_274.out
 have hms34_1 := NB298_275.out
 have hms34_2 := NB298_276.out
 have hms34_3 := NB298_287.out
 have hs35 := cI BK298.out 2 rfl
 have hfs35 := bF BK298.out 2
 have hns35_0 := NB274_298.out
 have hns35_1 := NB275_298.out
 have hns35_2 := NB276_298.out
 have hns35_3 := NB287_298.out
 have hms35_0 := NB298_274.out
 have hms35_1 := NB298_275.out
 have hms35_2 := NB298_276.out
 have hms35_3 := NB298_287.out
 have hs36 := cI BK298.out 3 rfl
 have hfs36 := bF BK298.out 3
 have hns36_0 := NB274_298.out
 have hns36_1 := NB275_298.out
 have hns36_2 := NB276_298.out
 have hns36_3 := NB287_298.out
 have hms36_0 := NB298_274.out
 have hms36_1 := NB298_275.out
 have hms36_2 := NB298_276.out
 have hms36_3 := NB298_287.out
 refine skip_ (w1 := ?_) (by rfl) rfl ?_ ?_
 rotate_left
 ·go_simp
  rfl
 refine hK.out _ _ ⟨((cell_far (p := ⟨gb298, _, none⟩) NB274_298.out _).trans (((cell_far (p := ⟨gb298, _, none⟩) NB274_298.out _).trans (((cell_far (p := ⟨gb298, _, none⟩) NB274_298.out _).trans (((cell_far (p := ⟨gb298, _, none⟩) NB274_298.out _).trans (hHeld.1)))))))), ((cell_far (p := ⟨gb298, _, none⟩) NB274_298.out _).trans (((cell_far (p := ⟨gb298, _, none⟩) NB274_298.out _).trans (((cell_far (p := ⟨gb298, _, none⟩) NB274_298.out _).trans (((cell_far (p := ⟨gb298, _, none⟩) NB274_298.out _).trans (hHeld.2.1)))))))), ((cell_far (p := ⟨gb298, _, none⟩) NB274_298.out _).trans (((cell_far (p := ⟨gb298, _, none⟩) NB274_298.out _).trans (((cell_far (p := ⟨gb298, _, none⟩) NB274_298.out _).trans (((cell_far (p := ⟨gb298, _, none⟩) NB274_298.out _).trans (hHeld.2.2.1)))))))), ((cell_far (p := ⟨gb298, _, none⟩) NB276_298.out _).trans (((cell_far (p := ⟨gb298, _, none⟩) NB276_298.out _).trans (((cell_far (p := ⟨gb298, _, none⟩) NB276_298.out _).trans (((cell_far (p := ⟨gb298, _, none⟩) NB276_298.out _).trans (hHeld.2.2.2.1)))))))), ((cell_far (p := ⟨gb298, _, none⟩) NB276_298.out _).trans (((cell_far (p := ⟨gb298, _, none⟩) NB276_298.out _).trans (((cell_far (p := ⟨gb298, _, none⟩) NB276_298.out _).trans (((cell_far (p := ⟨gb298, _, none⟩) NB276_298.out _).trans (hHeld.2.2.2.2.1)))))))), ((cell_far (p := ⟨gb298, _, none⟩) NB276_298.out _).trans (((cell_far (p := ⟨gb298, _, none⟩) NB276_298.out _).trans (((cell_far (p := ⟨gb298, _, none⟩) NB276_298.out _).trans (((cell_far (p := ⟨gb298, _, none⟩) NB276_298.out _).trans (hHeld.2.2.2.2.2.1)))))))), ((cell_far (p := ⟨gb298, _, none⟩) NB276_298.out _).trans (((cell_far (p := ⟨gb298, _, none⟩) NB276_298.out _).trans (((cell_far (p := ⟨gb298, _, none⟩) NB276_298.out _).trans (((cell_far (p := ⟨gb298, _, none⟩) NB276_298.out _).trans (hHeld.2.2.2.2.2.2.1)))))))), ((cell_far (p := ⟨gb298, _, none⟩) NB276_298.out _).trans (((cell_far (p := ⟨gb298, _, none⟩) NB276_298.out _).trans (((cell_far (p := ⟨gb298, _, none⟩) NB276_298.out _).trans (((cell_far (p := ⟨gb298, _, none⟩) NB276_298.out _).trans (hHeld.2.2.2.2.2.2.2))))))))⟩ (fun hHeld => ?_)
 clear hK K
 refine pure_ (i := 12) (N := some 10) (v := ?_) (a' := ?_) #[true, true, true, true, true, true, true, true, true, true, true, true, true] rfl rfl (any_of HT_.out (by kernel_rfl)) (fun _ _ _ h => h) (Or.inl ⟨by rfl, ?_⟩) ?_ ?_
 rotate_left
 ·intro w'
  go_simp
  with_reducible rfl
 rotate_left
 ·simp only [Act.put, List.setIfInBounds_toArray, List.set_cons_zero, List.set_cons_succ, i64_w, i32_w]
  rfl
 refine done_ (done_of HT_.out (by kernel_rfl)) ?_
 go_upto_region 4 with (fail)
 go_cut [42] (fun v42 wc => ∃ (kq : Nat) (x42_7 : Bool), v42 = .bool x42_7 ∧ Aside0 (frisketlaw19_PlaceApart.j0 kq x42_7 a1_0 a1_1 a1_2 a1_3 a1_4 a2_0 a2_1 a2_2 a2_3 a1_4 t282 t283 t284 t285 t293 t294 t295 t296 = some r) ∧ Aside0 (kq ≤ k) ∧ Aside0 (wc.heap[gb274]? = some (.cells #[.int .i64 a0_0, .int .i64 a0_1, .int .i64 a0_2] 26 (0, 0))) ∧ Aside0 (wc.heap[gb275]? = some (.cells #[.int .i64 a1_0, .int .i64 a1_1, .int .i64 a1_2, .int .i64 a1_3, .bool a1_4] 28 (0, 0))) ∧ Aside0 (wc.heap[gb276]? = some (.cells #[.int .i64 a2_0, .int .i64 a2_1, .int .i64 a2_2, .int .i64 a2_3, .bool a1_4] 28 (0, 0))) ∧ Aside0 (wc.heap[gb287]? = some (.cells #[.int .i64 t282, .int .i64 t283, .int .i64 t284, .int .i64 t285] 33 (0, 0))) ∧ Aside0 (wc.heap[gb298]? = some (.cells #[.int .i64 t293, .int .i64 t294, .int .i64 t295, .int .i64 t296] 33 (0, 0))) ∧ Aside0 (Below w.heap.size w wc))
 case first =>
  have H := HC8.out
  clear HC8
  by_cases c37 : t286 = 0
  ·rw [if_pos c37] at H
   have c37b0 : (t286 == 0) = true := beq_iff_eq.mpr c37
   have c37b1 : (t286 != 0) = false := bne_eq_false_iff_eq.mpr c37
   clear c37
   (first | rw [c37b0] | (simp only [i64_w, i32_w]; rw [c37b0]) | skip)
   have H' := Aside0.mk H
   clear H
   go_wp2
   go_meet
   case rel => exact ⟨_, ((t297 != 0)), (by first | rfl | (simp; done) | (simp [*]; done)), H', ⟨by first | omega | exact Nat.le_refl _⟩, ⟨by (with_reducible repeat (first | refine bN ?_ _ | refine bD ?_ | refine bA ?_ _)); refine blk_far ?_ NB274_298.out _; (with_reducible repeat (first | refine bN ?_ _ | refine bD ?_ | refine bA ?_ _)); refine blk_far ?_ NB274_298.out _; (with_reducible repeat (first | refine bN ?_ _ | refine bD ?_ | refine bA ?_ _)); refine blk_far ?_ NB274_298.out _; (with_reducible repeat (first | refine bN ?_ _ | refine bD ?_ | refine bA ?_ _)); refine blk_far ?_ NB274_298.out _; (with_reducible repeat (first | refine bN ?_ _ | refine bD ?_ | refine bA ?_ _)); exact BK274.out⟩, ⟨by (with_reducible repeat (first | refine bN ?_ _ | refine bD ?_ | refine bA ?_ _)); refine blk_far ?_ NB275_298.out _; (with_reducible repeat (first | refine bN ?_ _ | refine bD ?_ | refine bA ?_ _)); refine blk_far ?_ NB275_298.out _; (with_reducible repeat (first | refine bN ?_ _ | refine bD ?_ | refine bA ?_ _)); refine blk_far ?_ NB275_298.out _; (with_reducible repeat (first | refine bN ?_ _ | refine bD ?_ | refine bA ?_ _)); refine blk_far ?_ NB275_298.out _; (with_reducible repeat (first | refine bN ?_ _ | refine bD ?_ | refine bA ?_ _)); exact BK275.out⟩, ⟨by (with_reducible repeat (first | refine bN ?_ _ | refine bD ?_ | refine bA ?_ _)); refine blk_far ?_ NB276_298.out _; (with_reducible repeat (first | refine bN ?_ _ | refine bD ?_ | refine bA ?_ _)); refine blk_far ?_ NB276_298.out _; (with_reducible repeat (first | refine bN ?_ _ | refine bD ?_ | refine bA ?_ _)); refine blk_far ?_ NB276_298.out _; (with_reducible repeat (first | refine bN ?_ _ | refine bD ?_ | refine bA ?_ _)); refine blk_far ?_ NB276_298.out _; (with_reducible repeat (first | refine bN ?_ _ | refine bD ?_ | refine bA ?_ _)); exact BK276.out⟩, ⟨by (with_reducible repeat (first | refine bN ?_ _ | refine bD ?_ | refine bA ?_ _)); refine blk_far ?_ NB287_298.out _; (with_reducible repeat (first | refine bN ?_ _ | refine bD ?_ | refine bA ?_ _)); refine blk_far ?_ NB287_298.out _; (with_reducible repeat (first | refine bN ?_ _ | refine bD ?_ | refine bA ?_ _)); refine blk_far ?_ NB287_298.out _; (with_reducible repeat (first | refine bN ?_ _ | refine bD ?_ | refine bA ?_ _)); refine blk_far ?_ NB287_298.out _; (with_reducible repeat (first | refine bN ?_ _ | refine bD ?_ | refine bA ?_ _)); exact BK287.out⟩, ⟨by (with_reducible repeat (first | refine bN ?_ _ | refine bD ?_ | refine bA ?_ _)); refine blk_put (cs := #[.int .i64 t293, .int .i64 t294, .int .i64 t295, .int .i64 0]) ?_ 3 _ rfl; (with_reducible repeat (first | refine bN ?_ _ | refine bD ?_ | refine bA ?_ _)); refine blk_put (cs := #[.int .i64 t293, .int .i64 t294, .int .i64 0, .int .i64 0]) ?_ 2 _ rfl; (with_reducible repeat (first | refine bN ?_ _ | refine bD ?_ | refine bA ?_ _)); refine blk_put (cs := #[.int .i64 t293, .int .i64 0, .int .i64 0, .int .i64 0]) ?_ 1 _ rfl; (with_reducible repeat (first | refine bN ?_ _ | refine bD ?_ | refine bA ?_ _)); refine blk_put (cs := #[.int .i64 0, .int .i64 0, .int .i64 0, .int .i64 0]) ?_ 0 _ rfl; (with_reducible repeat (first | refine bN ?_ _ | refine bD ?_ | refine bA ?_ _)); exact BK298.out⟩, ⟨by repeat (first | (with_reducible first | exact HB.out | apply below_alloc | apply pw_below_drewN | apply below_drew1 | refine bS ?_ GE274.out | refine bS ?_ GE275.out | refine bS ?_ GE276.out | refine bS ?_ GE287.out | refine bS ?_ GE298.out) | exact HB.out)⟩⟩
  ·rw [if_neg c37] at H
   have c37b0 : (t286 == 0) = false := beq_eq_false_iff_ne.mpr c37
   have c37b1 : (t286 != 0) = true := bne_iff_ne.mpr c37
   (first | rw [c37b0] | (simp only [i64_w, i32_w]; rw [c37b0]) | skip)
   have H' := Aside0.mk H
   clear H
   go_wp2
   go_meet
   case rel => exact ⟨_, (true), (by first | rfl | (simp; done) | (simp [*]; done)), H', ⟨by first | omega | exact Nat.le_refl _⟩, ⟨by (with_reducible repeat (first | refine bN ?_ _ | refine bD ?_ | refine bA ?_ _)); refine blk_far ?_ NB274_298.out _; (with_reducible repeat (first | refine bN ?_ _ | refine bD ?_ | refine bA ?_ _)); refine blk_far ?_ NB274_298.out _; (with_reducible repeat (first | refine bN ?_ _ | refine bD ?_ | refine bA ?_ _)); refine blk_far ?_ NB274_298.out _; (with_reducible repeat (first | refine bN ?_ _ | refine bD ?_ | refine bA ?_ _)); refine blk_far ?_ NB274_298.out _; (with_reducible repeat (first | refine bN ?_ _ | refine bD ?_ | refine bA ?_ _)); exact BK274.out⟩, ⟨by (with_reducible repeat (first | refine bN ?_ _ | refine bD ?_ | refine bA ?_ _)); refine blk_far ?_ NB275_298.out _; (with_reducible repeat (first | refine bN ?_ _ | refine bD ?_ | refine bA ?_ _)); refine blk_far ?_ NB275_298.out _; (with_reducible repeat (first | refine bN ?_ _ | refine bD ?_ | refine bA ?_ _)); refine blk_far ?_ NB275_298.out _; (with_reducible repeat (first | refine bN ?_ _ | refine bD ?_ | refine bA ?_ _)); refine blk_far ?_ NB275_298.out _; (with_reducible repeat (first | refine bN ?_ _ | refine bD ?_ | refine bA ?_ _)); exact BK275.out⟩, ⟨by (with_reducible repeat (first | refine bN ?_ _ | refine bD ?_ | refine bA ?_ _)); refine blk_far ?_ NB276_298.out _; (with_reducible repeat (first | refine bN ?_ _ | refine bD ?_ | refine bA ?_ _)); refine blk_far ?_ NB276_298.out _; (with_reducible repeat (first | refine bN ?_ _ | refine bD ?_ | refine bA ?_ _)); refine blk_far ?_ NB276_298.out _; (with_reducible repeat (first | refine bN ?_ _ | refine bD ?_ | refine bA ?_ _)); refine blk_far ?_ NB276_298.out _; (with_reducible repeat (first | refine bN ?_ _ | refine bD ?_ | refine bA ?_ _)); exact BK276.out⟩, ⟨by (with_reducible repeat (first | refine bN ?_ _ | refine bD ?_ | refine bA ?_ _)); refine blk_far ?_ NB287_298.out _; (with_reducible repeat (first | refine bN ?_ _ | refine bD ?_ | refine bA ?_ _)); refine blk_far ?_ NB287_298.out _; (with_reducible repeat (first | refine bN ?_ _ | refine bD ?_ | refine bA ?_ _)); refine blk_far ?_ NB287_298.out _; (with_reducible repeat (first | refine bN ?_ _ | refine bD ?_ | refine bA ?_ _)); refine blk_far ?_ NB287_298.out _; (with_reducible repeat (first | refine bN ?_ _ | refine bD ?_ | refine bA ?_ _)); exact BK287.out⟩, ⟨by (with_reducible repeat (first | refine bN ?_ _ | refine bD ?_ | refine bA ?_ _)); refine blk_put (cs := #[.int .i64 t293, .int .i64 t294, .int .i64 t295, .int .i64 0]) ?_ 3 _ rfl; (with_reducible repeat (first | refine bN ?_ _ | refine bD ?_ | refine bA ?_ _)); refine blk_put (cs := #[.int .i64 t293, .int .i64 t294, .int .i64 0, .int .i64 0]) ?_ 2 _ rfl; (with_reducible repeat (first | refine bN ?_ _ | refine bD ?_ | refine bA ?_ _)); refine blk_put (cs := #[.int .i64 t293, .int .i64 0, .int .i64 0, .int .i64 0]) ?_ 1 _ rfl; (with_reducible repeat (first | refine bN ?_ _ | refine bD ?_ | refine bA ?_ _)); refine blk_put (cs := #[.int .i64 0, .int .i64 0, .int .i64 0, .int .i64 0]) ?_ 0 _ rfl; (with_reducible repeat (first | refine bN ?_ _ | refine bD ?_ | refine bA ?_ _)); exact BK298.out⟩, ⟨by repeat (first | (with_reducible first | exact HB.out | apply below_alloc | apply pw_below_drewN | apply below_drew1 | refine bS ?_ GE274.out | refine bS ?_ GE275.out | refine bS ?_ GE276.out | refine bS ?_ GE287.out | refine bS ?_ GE298.out) | exact HB.out)⟩⟩
 case rest =>
  clear HC8
  try clear c1
  try clear p2
  try clear c3
  try clear c10
  try clear c11
  try clear c37
  try clear c37b0
  try clear c37b1
  obtain ⟨kq, x42_7, rfl, HA, HJ7, BK274, BK275, BK276, BK287, BK298, HB⟩ := hcut
  cases kq with
  | zero => exact absurd HA.out (by simp [frisketlaw19_PlaceApart.j0])
  | succ kj7 =>
   have H := HA.out
   clear HA
   simp only [frisketlaw19_PlaceApart.j0] at H
   by_cases c38 : x42_7 = true
   ·subst c38
    have H1 : ((frisketlaw19_alive.f).bind fun t299 => (some t299)) = some r := by rw [if_pos rfl] at H; exact H
    clear H
    have H := H1
    clear H1
    replace H := Option.bind_eq_some_iff.mp H
    obtain ⟨t299, A390, H⟩ := H
    replace H : (some t299) = some r := H
    have A39 := Aside0.mk A390
    clear A390
    obtain rfl := Option.some.inj H
    go_wp2_with (first | ((with_reducible refine gate_callee (f := 13) rfl ?_); refine goesL_ (some 43) rfl rfl Try.func13 (by kernel_rfl) rfl #[] rfl (by (try simp only [List.map_toArray, List.map_cons, List.map_nil]); first | done | rfl | (simp only [List.length_drop, List.length_take]; rfl)) ?_; (with_reducible refine (frisketlaw19_alive.calls  t299 _ A39.out).mono ?_); rintro e w40 ⟨rfl, hb⟩; refine ⟨_, rfl, ?_⟩; have n0_ := Aside0.mk (blk_below (g := gb274) (o := .cells #[.int .i64 a0_0, .int .i64 a0_1, .int .i64 a0_2] 26 (0, 0)) (by (with_reducible repeat (first | refine bN ?_ _ | refine bD ?_ | refine bA ?_ _)); exact BK274.out) hb); have n1_ := Aside0.mk (blk_below (g := gb275) (o := .cells #[.int .i64 a1_0, .int .i64 a1_1, .int .i64 a1_2, .int .i64 a1_3, .bool a1_4] 28 (0, 0)) (by (with_reducible repeat (first | refine bN ?_ _ | refine bD ?_ | refine bA ?_ _)); exact BK275.out) hb); have n2_ := Aside0.mk (blk_below (g := gb276) (o := .cells #[.int .i64 a2_0, .int .i64 a2_1, .int .i64 a2_2, .int .i64 a2_3, .bool a1_4] 28 (0, 0)) (by (with_reducible repeat (first | refine bN ?_ _ | refine bD ?_ | refine bA ?_ _)); exact BK276.out) hb); have n3_ := Aside0.mk (blk_below (g := gb287) (o := .cells #[.int .i64 t282, .int .i64 t283, .int .i64 t284, .int .i64 t285] 33 (0, 0)) (by (with_reducible repeat (first | refine bN ?_ _ | refine bD ?_ | refine bA ?_ _)); exact BK287.out) hb); have n4_ := Aside0.mk (blk_below (g := gb298) (o := .cells #[.int .i64 t293, .int .i64 t294, .int .i64 t295, .int .i64 t296] 33 (0, 0)) (by (with_reducible repeat (first | refine bN ?_ _ | refine bD ?_ | refine bA ?_ _)); exact BK298.out) hb); have n5_ := Aside0.mk (below_step (by repeat (first | (with_reducible first | exact HB.out | apply below_alloc | apply pw_below_drewN | apply below_drew1 | refine bS ?_ GE274.out | refine bS ?_ GE275.out | refine bS ?_ GE276.out | refine bS ?_ GE287.out | refine bS ?_ GE298.out) | exact HB.out)) hb); clear BK274; clear BK275; clear BK276; clear BK287; clear BK298; clear HB; have BK274 := n0_; have BK275 := n1_; have BK276 := n2_; have BK287 := n3_; have BK298 := n4_; have HB := n5_; clear n0_ n1_ n2_ n3_ n4_ n5_; (try clear hb); (try clear hb2); (try clear hk); (try clear hi)))
    go_ret
    exact ⟨by first | rfl | (simp [errW_none, errW_some] <;> rfl) | (simp [*, errW_none, errW_some] <;> rfl), by repeat (first | (with_reducible first | exact HB.out | apply below_alloc | apply pw_below_drewN | apply below_drew1 | refine bS ?_ GE274.out | refine bS ?_ GE275.out | refine bS ?_ GE276.out | refine bS ?_ GE287.out | refine bS ?_ GE298.out) | exact HB.out)⟩
   ·replace c38 := Bool.eq_false_iff.mpr c38
    subst c38
    have H1 : (if (wrap64 (a1_0 + a1_1)) ≤ a2_0 then (if (wrap64 (a1_2 + a1_3)) ≤ a2_2 then (if (wrap64 (t282 + t284)) ≤ t293 then ((frisketlaw19_alive.f).bind fun t300 => (if t300 = true then (some (true == true)) else (some false))) else (if (wrap64 (t293 + t295)) ≤ t282 then ((frisketlaw19_alive.f).bind fun t301 => (if t301 = true then (some (true == true)) else (some false))) else (if (wrap64 (t283 + t285)) ≤ t294 then ((frisketlaw19_alive.f).bind fun t302 => (if t302 = true then (some (true == true)) else (some false))) else ((frisketlaw19_alive.f).bind fun t303 => (if t303 = true then (some ((decide ((wrap64 (t294 + t296)) ≤ t283)) == true)) else (some false)))))) else (if (wrap64 (t282 + t284)) ≤ t293 then ((frisketlaw19_alive.f).bind fun t304 => (if t304 = true then (some (true == true)) else (some false))) else (if (wrap64 (t293 + t295)) ≤ t282 then ((frisketlaw19_alive.f).bind fun t305 => (if t305 = true then (some (true == true)) else (some false))) else (if (wrap64 (t283 + t285)) ≤ t294 then ((frisketlaw19_alive.f).bind fun t306 => (if t306 = true then (some (true == true)) else (some false))) else ((frisketlaw19_alive.f).bind fun t307 => (if t307 = true then (some ((decide ((wrap64 (t294 + t296)) ≤ t283)) == true)) else (some false))))))) else (if (wrap64 (a1_2 + a1_3)) ≤ a2_2 then (if (wrap64 (t282 + t284)) ≤ t293 then ((frisketlaw19_alive.f).bind fun t308 => (if t308 = true then (if (wrap64 (a2_0 + a2_1)) ≤ a1_0 then (some (true == true)) else (some (true == true))) else (some false))) else (if (wrap64 (t293 + t295)) ≤ t282 then ((frisketlaw19_alive.f).bind fun t309 => (if t309 = true then (if (wrap64 (a2_0 + a2_1)) ≤ a1_0 then (some (true == true)) else (some (true == true))) else (some false))) else (if (wrap64 (t283 + t285)) ≤ t294 then ((frisketlaw19_alive.f).bind fun t310 => (if t310 = true then (if (wrap64 (a2_0 + a2_1)) ≤ a1_0 then (some (true == true)) else (some (true == true))) else (some false))) else ((frisketlaw19_alive.f).bind fun t311 => (if t311 = true then (if (wrap64 (a2_0 + a2_1)) ≤ a1_0 then (some ((decide ((wrap64 (t294 + t296)) ≤ t283)) == true)) else (some ((decide ((wrap64 (t294 + t296)) ≤ t283)) == true))) else (some false)))))) else (if (wrap64 (t282 + t284)) ≤ t293 then ((frisketlaw19_alive.f).bind fun t312 => (if t312 = true then (if (wrap64 (a2_0 + a2_1)) ≤ a1_0 then (some (true == true)) else (some (true == (decide ((wrap64 (a2_2 + a2_3)) ≤ a1_2))))) else (some false))) else (if (wrap64 (t293 + t295)) ≤ t282 then ((frisketlaw19_alive.f).bind fun t313 => (if t313 = true then (if (wrap64 (a2_0 + a2_1)) ≤ a1_0 then (some (true == true)) else (some (true == (decide ((wrap64 (a2_2 + a2_3)) ≤ a1_2))))) else (some false))) else (if (wrap64 (t283 + t285)) ≤ t294 then ((frisketlaw19_alive.f).bind fun t314 => (if t314 = true then (if (wrap64 (a2_0 + a2_1)) ≤ a1_0 then (some (true == true)) else (some (true == (decide ((wrap64 (a2_2 + a2_3)) ≤ a1_2))))) else (some false))) else ((frisketlaw19_alive.f).bind fun t315 => (if t315 = true then (if (wrap64 (a2_0 + a2_1)) ≤ a1_0 then (some ((decide ((wrap64 (t294 + t296)) ≤ t283)) == true)) else (some ((decide ((wrap64 (t294 + t296)) ≤ t283)) == (decide ((wrap64 (a2_2 + a2_3)) ≤ a1_2))))) else (some false)))))))) = some r := by rw [if_neg (show ¬ (false = true) by decide)] at H; exact H
    clear H
    have H := H1
    clear H1
    by_cases c41 : (wrap64 (a1_0 + a1_1)) ≤ a2_0
    ·rw [if_pos c41] at H
     have c41b0 : decide ((wrap64 (a1_0 + a1_1)) ≤ a2_0) = true := decide_eq_true c41
     clear c41
     by_cases c42 : (wrap64 (a1_2 + a1_3)) ≤ a2_2
     ·rw [if_pos c42] at H
      have c42b0 : decide ((wrap64 (a1_2 + a1_3)) ≤ a2_2) = true := decide_eq_true c42
      clear c42
      by_cases c43 : (wrap64 (t282 + t284)) ≤ t293
      ·rw [if_pos c43] at H
       have c43b0 : decide ((wrap64 (t282 + t284)) ≤ t293) = true := decide_eq_true c43
       clear c43
       replace H := Option.bind_eq_some_iff.mp H
       obtain ⟨t300, A440, H⟩ := H
       replace H : (if t300 = true then (some (true == true)) else (some false)) = some r := H
       have A44 := Aside0.mk A440
       clear A440
       by_cases c45 : t300 = true
       ·subst c45
        have H1 : (some (true == true)) = some r := by rw [if_pos rfl] at H; exact H
        clear H
        have H := H1
        clear H1
        obtain rfl := Option.some.inj H
        have hnb46 := NB275_274.out
        have hnc46 := NB274_275.out
        have hnb47 := NB275_276.out
        have hnc47 := NB276_275.out
        have hnb48 := NB275_287.out
        have hnc48 := NB287_275.out
        have hnb49 := NB275_298.out
        have hnc49 := NB298_275.out
        have hcz50_0 := cI BK275.out 0 rfl
        have hcz50_1 := cI BK275.out 1 rfl
        have hcz50_2 := cI BK275.out 2 rfl
        have hcz50_3 := cI BK275.out 3 rfl
        have hcz50_4 := cI BK275.out 4 rfl
        have hfz50_0 := bF BK275.out 0
        have hfz50_1 := bF BK275.out 1
        have hfz50_2 := bF BK275.out 2
        have hfz50_3 := bF BK275.out 3
        have hfz50_4 := bF BK275.out 4
        have hnb51 := NB276_274.out
        have hnc51 := NB274_276.out
        have hnb52 := NB276_287.out
        have hnc52 := NB287_276.out
        have hnb53 := NB276_298.out
        have hnc53 := NB298_276.out
        have hcz54_0 := cI BK276.out 0 rfl
        have hcz54_1 := cI BK276.out 1 rfl
        have hcz54_2 := cI BK276.out 2 rfl
        have hcz54_3 := cI BK276.out 3 rfl
        have hcz54_4 := cI BK276.out 4 rfl
        have hfz54_0 := bF BK276.out 0
        have hfz54_1 := bF BK276.out 1
        have hfz54_2 := bF BK276.out 2
        have hfz54_3 := bF BK276.out 3
        have hfz54_4 := bF BK276.out 4
        have hnb55 := NB287_274.out
        have hnc55 := NB274_287.out
        have hnb56 := NB287_298.out
        have hnc56 := NB298_287.out
        have hcz57_0 := cI BK287.out 0 rfl
        have hcz57_1 := cI BK287.out 1 rfl
        have hcz57_2 := cI BK287.out 2 rfl
        have hcz57_3 := cI BK287.out 3 rfl
        have hfz57_0 := bF BK287.out 0
        have hfz57_1 := bF BK287.out 1
        have hfz57_2 := bF BK287.out 2
        have hfz57_3 := bF BK287.out 3
        have hnb58 := NB298_274.out
        have hnc58 := NB274_298.out
        have hcz59_0 := cI BK298.out 0 rfl
        have hcz59_1 := cI BK298.out 1 rfl
        have hcz59_2 := cI BK298.out 2 rfl
        have hcz59_3 := cI BK298.out 3 rfl
        have hfz59_0 := bF BK298.out 0
        have hfz59_1 := bF BK298.out 1
        have hfz59_2 := bF BK298.out 2
        have hfz59_3 := bF BK298.out 3
        go_wp2_with (first | ((with_reducible refine gate_callee (f := 13) rfl ?_); refine goesL_ (some 118) rfl rfl Try.func13 (by kernel_rfl) rfl #[] rfl (by (try simp only [List.map_toArray, List.map_cons, List.map_nil]); first | done | rfl | (simp only [List.length_drop, List.length_take]; rfl)) ?_; (with_reducible refine (frisketlaw19_alive.calls  true _ A44.out).mono ?_); rintro e w60 ⟨rfl, hb⟩; refine ⟨_, rfl, ?_⟩; have n0_ := Aside0.mk (blk_below (g := gb274) (o := .cells #[.int .i64 a0_0, .int .i64 a0_1, .int .i64 a0_2] 26 (0, 0)) (by (with_reducible repeat (first | refine bN ?_ _ | refine bD ?_ | refine bA ?_ _)); exact BK274.out) hb); have n1_ := Aside0.mk (blk_below (g := gb275) (o := .cells #[.int .i64 a1_0, .int .i64 a1_1, .int .i64 a1_2, .int .i64 a1_3, .bool a1_4] 28 (0, 0)) (by (with_reducible repeat (first | refine bN ?_ _ | refine bD ?_ | refine bA ?_ _)); exact BK275.out) hb); have n2_ := Aside0.mk (blk_below (g := gb276) (o := .cells #[.int .i64 a2_0, .int .i64 a2_1, .int .i64 a2_2, .int .i64 a2_3, .bool a1_4] 28 (0, 0)) (by (with_reducible repeat (first | refine bN ?_ _ | refine bD ?_ | refine bA ?_ _)); exact BK276.out) hb); have n3_ := Aside0.mk (blk_below (g := gb287) (o := .cells #[.int .i64 t282, .int .i64 t283, .int .i64 t284, .int .i64 t285] 33 (0, 0)) (by (with_reducible repeat (first | refine bN ?_ _ | refine bD ?_ | refine bA ?_ _)); exact BK287.out) hb); have n4_ := Aside0.mk (blk_below (g := gb298) (o := .cells #[.int .i64 t293, .int .i64 t294, .int .i64 t295, .int .i64 t296] 33 (0, 0)) (by (with_reducible repeat (first | refine bN ?_ _ | refine bD ?_ | refine bA ?_ _)); exact BK298.out) hb); have n5_ := Aside0.mk (below_step (by repeat (first | (with_reducible first | exact HB.out | apply below_alloc | apply pw_below_drewN | apply below_drew1 | refine bS ?_ GE274.out | refine bS ?_ GE275.out | refine bS ?_ GE276.out | refine bS ?_ GE287.out | refine bS ?_ GE298.out) | exact HB.out)) hb); clear BK274; clear BK275; clear BK276; clear BK287; clear BK298; clear HB; have BK274 := n0_; have BK275 := n1_; have BK276 := n2_; have BK287 := n3_; have BK298 := n4_; have HB := n5_; clear n0_ n1_ n2_ n3_ n4_ n5_; (try clear hb); (try clear hb2); (try clear hk); (try clear hi)))
        go_ret
        exact ⟨by first | rfl | (simp [errW_none, errW_some] <;> rfl) | (simp [*, errW_none, errW_some] <;> rfl), by repeat (first | (with_reducible first | exact HB.out | apply below_alloc | apply pw_below_drewN | apply below_drew1 | refine bS ?_ GE274.out | refine bS ?_ GE275.out | refine bS ?_ GE276.out | refine bS ?_ GE287.out | refine bS ?_ GE298.out) | exact HB.out)⟩
       ·replace c45 := Bool.eq_false_iff.mpr c45
        subst c45
        have H1 : (some false) = some r := by rw [if_neg (show ¬ (false = true) by decide)] at H; exact H
        clear H
        have H := H1
        clear H1
        exact af_absurd HRT.out H (by repeat (first | exact AF.none | exact AF.false | refine AF.ite ?_ ?_ | refine AF.bind (fun _ => ?_)))
      ·rw [if_neg c43] at H
       have c43b0 : decide ((wrap64 (t282 + t284)) ≤ t293) = false := decide_eq_false c43
       clear c43
       by_cases c61 : (wrap64 (t293 + t295)) ≤ t282
       ·rw [if_pos c61] at H
        have c61b0 : decide ((wrap64 (t293 + t295)) ≤ t282) = true := decide_eq_true c61
        clear c61
        replace H := Option.bind_eq_some_iff.mp H
        obtain ⟨t301, A620, H⟩ := H
        replace H : (if t301 = true then (some (true == true)) else (some false)) = some r := H
        have A62 := Aside0.mk A620
        clear A620
        by_cases c63 : t301 = true
        ·subst c63
         have H1 : (some (true == true)) = some r := by rw [if_pos rfl] at H; exact H
         clear H
         have H := H1
         clear H1
         obtain rfl := Option.some.inj H
         have hnb64 := NB275_274.out
         have hnc64 := NB274_275.out
         have hnb65 := NB275_276.out
         have hnc65 := NB276_275.out
         have hnb66 := NB275_287.out
         have hnc66 := NB287_275.out
         have hnb67 := NB275_298.out
         have hnc67 := NB298_275.out
         have hcz68_0 := cI BK275.out 0 rfl
         have hcz68_1 := cI BK275.out 1 rfl
         have hcz68_2 := cI BK275.out 2 rfl
         have hcz68_3 := cI BK275.out 3 rfl
         have hcz68_4 := cI BK275.out 4 rfl
         have hfz68_0 := bF BK275.out 0
         have hfz68_1 := bF BK275.out 1
         have hfz68_2 := bF BK275.out 2
         have hfz68_3 := bF BK275.out 3
         have hfz68_4 := bF BK275.out 4
         have hnb69 := NB276_274.out
         have hnc69 := NB274_276.out
         have hnb70 := NB276_287.out
         have hnc70 := NB287_276.out
         have hnb71 := NB276_298.out
         have hnc71 := NB298_276.out
         have hcz72_0 := cI BK276.out 0 rfl
         have hcz72_1 := cI BK276.out 1 rfl
         have hcz72_2 := cI BK276.out 2 rfl
         have hcz72_3 := cI BK276.out 3 rfl
         have hcz72_4 := cI BK276.out 4 rfl
         have hfz72_0 := bF BK276.out 0
         have hfz72_1 := bF BK276.out 1
         have hfz72_2 := bF BK276.out 2
         have hfz72_3 := bF BK276.out 3
         have hfz72_4 := bF BK276.out 4
         have hnb73 := NB287_274.out
         have hnc73 := NB274_287.out
         have hnb74 := NB287_298.out
         have hnc74 := NB298_287.out
         have hcz75_0 := cI BK287.out 0 rfl
         have hcz75_1 := cI BK287.out 1 rfl
         have hcz75_2 := cI BK287.out 2 rfl
         have hcz75_3 := cI BK287.out 3 rfl
         have hfz75_0 := bF BK287.out 0
         have hfz75_1 := bF BK287.out 1
         have hfz75_2 := bF BK287.out 2
         have hfz75_3 := bF BK287.out 3
         have hnb76 := NB298_274.out
         have hnc76 := NB274_298.out
         have hcz77_0 := cI BK298.out 0 rfl
         have hcz77_1 := cI BK298.out 1 rfl
         have hcz77_2 := cI BK298.out 2 rfl
         have hcz77_3 := cI BK298.out 3 rfl
         have hfz77_0 := bF BK298.out 0
         have hfz77_1 := bF BK298.out 1
         have hfz77_2 := bF BK298.out 2
         have hfz77_3 := bF BK298.out 3
         go_wp2_with (first | ((with_reducible refine gate_callee (f := 13) rfl ?_); refine goesL_ (some 118) rfl rfl Try.func13 (by kernel_rfl) rfl #[] rfl (by (try simp only [List.map_toArray, List.map_cons, List.map_nil]); first | done | rfl | (simp only [List.length_drop, List.length_take]; rfl)) ?_; (with_reducible refine (frisketlaw19_alive.calls  true _ A62.out).mono ?_); rintro e w78 ⟨rfl, hb⟩; refine ⟨_, rfl, ?_⟩; have n0_ := Aside0.mk (blk_below (g := gb274) (o := .cells #[.int .i64 a0_0, .int .i64 a0_1, .int .i64 a0_2] 26 (0, 0)) (by (with_reducible repeat (first | refine bN ?_ _ | refine bD ?_ | refine bA ?_ _)); exact BK274.out) hb); have n1_ := Aside0.mk (blk_below (g := gb275) (o := .cells #[.int .i64 a1_0, .int .i64 a1_1, .int .i64 a1_2, .int .i64 a1_3, .bool a1_4] 28 (0, 0)) (by (with_reducible repeat (first | refine bN ?_ _ | refine bD ?_ | refine bA ?_ _)); exact BK275.out) hb); have n2_ := Aside0.mk (blk_below (g := gb276) (o := .cells #[.int .i64 a2_0, .int .i64 a2_1, .int .i64 a2_2, .int .i64 a2_3, .bool a1_4] 28 (0, 0)) (by (with_reducible repeat (first | refine bN ?_ _ | refine bD ?_ | refine bA ?_ _)); exact BK276.out) hb); have n3_ := Aside0.mk (blk_below (g := gb287) (o := .cells #[.int .i64 t282, .int .i64 t283, .int .i64 t284, .int .i64 t285] 33 (0, 0)) (by (with_reducible repeat (first | refine bN ?_ _ | refine bD ?_ | refine bA ?_ _)); exact BK287.out) hb); have n4_ := Aside0.mk (blk_below (g := gb298) (o := .cells #[.int .i64 t293, .int .i64 t294, .int .i64 t295, .int .i64 t296] 33 (0, 0)) (by (with_reducible repeat (first | refine bN ?_ _ | refine bD ?_ | refine bA ?_ _)); exact BK298.out) hb); have n5_ := Aside0.mk (below_step (by repeat (first | (with_reducible first | exact HB.out | apply below_alloc | apply pw_below_drewN | apply below_drew1 | refine bS ?_ GE274.out | refine bS ?_ GE275.out | refine bS ?_ GE276.out | refine bS ?_ GE287.out | refine bS ?_ GE298.out) | exact HB.out)) hb); clear BK274; clear BK275; clear BK276; clear BK287; clear BK298; clear HB; have BK274 := n0_; have BK275 := n1_; have BK276 := n2_; have BK287 := n3_; have BK298 := n4_; have HB := n5_; clear n0_ n1_ n2_ n3_ n4_ n5_; (try clear hb); (try clear hb2); (try clear hk); (try clear hi)))
         go_ret
         exact ⟨by first | rfl | (simp [errW_none, errW_some] <;> rfl) | (simp [*, errW_none, errW_some] <;> rfl), by repeat (first | (with_reducible first | exact HB.out | apply below_alloc | apply pw_below_drewN | apply below_drew1 | refine bS ?_ GE274.out | refine bS ?_ GE275.out | refine bS ?_ GE276.out | refine bS ?_ GE287.out | refine bS ?_ GE298.out) | exact HB.out)⟩
        ·replace c63 := Bool.eq_false_iff.mpr c63
         subst c63
         have H1 : (some false) = some r := by rw [if_neg (show ¬ (false = true) by decide)] at H; exact H
         clear H
         have H := H1
         clear H1
         exact af_absurd HRT.out H (by repeat (first | exact AF.none | exact AF.false | refine AF.ite ?_ ?_ | refine AF.bind (fun _ => ?_)))
       ·rw [if_neg c61] at H
        have c61b0 : decide ((wrap64 (t293 + t295)) ≤ t282) = false := decide_eq_false c61
        clear c61
        by_cases c79 : (wrap64 (t283 + t285)) ≤ t294
        ·rw [if_pos c79] at H
         have c79b0 : decide ((wrap64 (t283 + t285)) ≤ t294) = true := decide_eq_true c79
         clear c79
         replace H := Option.bind_eq_some_iff.mp H
         obtain ⟨t302, A800, H⟩ := H
         replace H : (if t302 = true then (some (true == true)) else (some false)) = some r := H
         have A80 := Aside0.mk A800
         clear A800
         by_cases c81 : t302 = true
         ·subst c81
          have H1 : (some (true == true)) = some r := by rw [if_pos rfl] at H; exact H
          clear H
          have H := H1
          clear H1
          obtain rfl := Option.some.inj H
          have hnb82 := NB275_274.out
          have hnc82 := NB274_275.out
          have hnb83 := NB275_276.out
          have hnc83 := NB276_275.out
          have hnb84 := NB275_287.out
          have hnc84 := NB287_275.out
          have hnb85 := NB275_298.out
          have hnc85 := NB298_275.out
          have hcz86_0 := cI BK275.out 0 rfl
          have hcz86_1 := cI BK275.out 1 rfl
          have hcz86_2 := cI BK275.out 2 rfl
          have hcz86_3 := cI BK275.out 3 rfl
          have hcz86_4 := cI BK275.out 4 rfl
          have hfz86_0 := bF BK275.out 0
          have hfz86_1 := bF BK275.out 1
          have hfz86_2 := bF BK275.out 2
          have hfz86_3 := bF BK275.out 3
          have hfz86_4 := bF BK275.out 4
          have hnb87 := NB276_274.out
          have hnc87 := NB274_276.out
          have hnb88 := NB276_287.out
          have hnc88 := NB287_276.out
          have hnb89 := NB276_298.out
          have hnc89 := NB298_276.out
          have hcz90_0 := cI BK276.out 0 rfl
          have hcz90_1 := cI BK276.out 1 rfl
          have hcz90_2 := cI BK276.out 2 rfl
          have hcz90_3 := cI BK276.out 3 rfl
          have hcz90_4 := cI BK276.out 4 rfl
          have hfz90_0 := bF BK276.out 0
          have hfz90_1 := bF BK276.out 1
          have hfz90_2 := bF BK276.out 2
          have hfz90_3 := bF BK276.out 3
          have hfz90_4 := bF BK276.out 4
          have hnb91 := NB287_274.out
          have hnc91 := NB274_287.out
          have hnb92 := NB287_298.out
          have hnc92 := NB298_287.out
          have hcz93_0 := cI BK287.out 0 rfl
          have hcz93_1 := cI BK287.out 1 rfl
          have hcz93_2 := cI BK287.out 2 rfl
          have hcz93_3 := cI BK287.out 3 rfl
          have hfz93_0 := bF BK287.out 0
          have hfz93_1 := bF BK287.out 1
          have hfz93_2 := bF BK287.out 2
          have hfz93_3 := bF BK287.out 3
          have hnb94 := NB298_274.out
          have hnc94 := NB274_298.out
          have hcz95_0 := cI BK298.out 0 rfl
          have hcz95_1 := cI BK298.out 1 rfl
          have hcz95_2 := cI BK298.out 2 rfl
          have hcz95_3 := cI BK298.out 3 rfl
          have hfz95_0 := bF BK298.out 0
          have hfz95_1 := bF BK298.out 1
          have hfz95_2 := bF BK298.out 2
          have hfz95_3 := bF BK298.out 3
          go_wp2_with (first | ((with_reducible refine gate_callee (f := 13) rfl ?_); refine goesL_ (some 118) rfl rfl Try.func13 (by kernel_rfl) rfl #[] rfl (by (try simp only [List.map_toArray, List.map_cons, List.map_nil]); first | done | rfl | (simp only [List.length_drop, List.length_take]; rfl)) ?_; (with_reducible refine (frisketlaw19_alive.calls  true _ A80.out).mono ?_); rintro e w96 ⟨rfl, hb⟩; refine ⟨_, rfl, ?_⟩; have n0_ := Aside0.mk (blk_below (g := gb274) (o := .cells #[.int .i64 a0_0, .int .i64 a0_1, .int .i64 a0_2] 26 (0, 0)) (by (with_reducible repeat (first | refine bN ?_ _ | refine bD ?_ | refine bA ?_ _)); exact BK274.out) hb); have n1_ := Aside0.mk (blk_below (g := gb275) (o := .cells #[.int .i64 a1_0, .int .i64 a1_1, .int .i64 a1_2, .int .i64 a1_3, .bool a1_4] 28 (0, 0)) (by (with_reducible repeat (first | refine bN ?_ _ | refine bD ?_ | refine bA ?_ _)); exact BK275.out) hb); have n2_ := Aside0.mk (blk_below (g := gb276) (o := .cells #[.int .i64 a2_0, .int .i64 a2_1, .int .i64 a2_2, .int .i64 a2_3, .bool a1_4] 28 (0, 0)) (by (with_reducible repeat (first | refine bN ?_ _ | refine bD ?_ | refine bA ?_ _)); exact BK276.out) hb); have n3_ := Aside0.mk (blk_below (g := gb287) (o := .cells #[.int .i64 t282, .int .i64 t283, .int .i64 t284, .int .i64 t285] 33 (0, 0)) (by (with_reducible repeat (first | refine bN ?_ _ | refine bD ?_ | refine bA ?_ _)); exact BK287.out) hb); have n4_ := Aside0.mk (blk_below (g := gb298) (o := .cells #[.int .i64 t293, .int .i64 t294, .int .i64 t295, .int .i64 t296] 33 (0, 0)) (by (with_reducible repeat (first | refine bN ?_ _ | refine bD ?_ | refine bA ?_ _)); exact BK298.out) hb); have n5_ := Aside0.mk (below_step (by repeat (first | (with_reducible first | exact HB.out | apply below_alloc | apply pw_below_drewN | apply below_drew1 | refine bS ?_ GE274.out | refine bS ?_ GE275.out | refine bS ?_ GE276.out | refine bS ?_ GE287.out | refine bS ?_ GE298.out) | exact HB.out)) hb); clear BK274; clear BK275; clear BK276; clear BK287; clear BK298; clear HB; have BK274 := n0_; have BK275 := n1_; have BK276 := n2_; have BK287 := n3_; have BK298 := n4_; have HB := n5_; clear n0_ n1_ n2_ n3_ n4_ n5_; (try clear hb); (try clear hb2); (try clear hk); (try clear hi)))
          go_ret
          exact ⟨by first | rfl | (simp [errW_none, errW_some] <;> rfl) | (simp [*, errW_none, errW_some] <;> rfl), by repeat (first | (with_reducible first | exact HB.out | apply below_alloc | apply pw_below_drewN | apply below_drew1 | refine bS ?_ GE274.out | refine bS ?_ GE275.out | refine bS ?_ GE276.out | refine bS ?_ GE287.out | refine bS ?_ GE298.out) | exact HB.out)⟩
         ·replace c81 := Bool.eq_false_iff.mpr c81
          subst c81
          have H1 : (some false) = some r := by rw [if_neg (show ¬ (false = true) by decide)] at H; exact H
          clear H
          have H := H1
          clear H1
          exact af_absurd HRT.out H (by repeat (first | exact AF.none | exact AF.false | refine AF.ite ?_ ?_ | refine AF.bind (fun _ => ?_)))
        ·rw [if_neg c79] at H
         have c79b0 : decide ((wrap64 (t283 + t285)) ≤ t294) = false := decide_eq_false c79
         clear c79
         replace H := Option.bind_eq_some_iff.mp H
         obtain ⟨t303, A970, H⟩ := H
         replace H : (if t303 = true then (some ((decide ((wrap64 (t294 + t296)) ≤ t283)) == true)) else (some false)) = some r := H
         have A97 := Aside0.mk A970
         clear A970
         by_cases c98 : t303 = true
         ·subst c98
          have H1 : (some ((decide ((wrap64 (t294 + t296)) ≤ t283)) == true)) = some r := by rw [if_pos rfl] at H; exact H
          clear H
          have H := H1
          clear H1
          obtain rfl := Option.some.inj H
          have hnb99 := NB275_274.out
          have hnc99 := NB274_275.out
          have hnb100 := NB275_276.out
          have hnc100 := NB276_275.out
          have hnb101 := NB275_287.out
          have hnc101 := NB287_275.out
          have hnb102 := NB275_298.out
          have hnc102 := NB298_275.out
          have hcz103_0 := cI BK275.out 0 rfl
          have hcz103_1 := cI BK275.out 1 rfl
          have hcz103_2 := cI BK275.out 2 rfl
          have hcz103_3 := cI BK275.out 3 rfl
          have hcz103_4 := cI BK275.out 4 rfl
          have hfz103_0 := bF BK275.out 0
          have hfz103_1 := bF BK275.out 1
          have hfz103_2 := bF BK275.out 2
          have hfz103_3 := bF BK275.out 3
          have hfz103_4 := bF BK275.out 4
          have hnb104 := NB276_274.out
          have hnc104 := NB274_276.out
          have hnb105 := NB276_287.out
          have hnc105 := NB287_276.out
          have hnb106 := NB276_298.out
          have hnc106 := NB298_276.out
          have hcz107_0 := cI BK276.out 0 rfl
          have hcz107_1 := cI BK276.out 1 rfl
          have hcz107_2 := cI BK276.out 2 rfl
          have hcz107_3 := cI BK276.out 3 rfl
          have hcz107_4 := cI BK276.out 4 rfl
          have hfz107_0 := bF BK276.out 0
          have hfz107_1 := bF BK276.out 1
          have hfz107_2 := bF BK276.out 2
          have hfz107_3 := bF BK276.out 3
          have hfz107_4 := bF BK276.out 4
          have hnb108 := NB287_274.out
          have hnc108 := NB274_287.out
          have hnb109 := NB287_298.out
          have hnc109 := NB298_287.out
          have hcz110_0 := cI BK287.out 0 rfl
          have hcz110_1 := cI BK287.out 1 rfl
          have hcz110_2 := cI BK287.out 2 rfl
          have hcz110_3 := cI BK287.out 3 rfl
          have hfz110_0 := bF BK287.out 0
          have hfz110_1 := bF BK287.out 1
          have hfz110_2 := bF BK287.out 2
          have hfz110_3 := bF BK287.out 3
          have hnb111 := NB298_274.out
          have hnc111 := NB274_298.out
          have hcz112_0 := cI BK298.out 0 rfl
          have hcz112_1 := cI BK298.out 1 rfl
          have hcz112_2 := cI BK298.out 2 rfl
          have hcz112_3 := cI BK298.out 3 rfl
          have hfz112_0 := bF BK298.out 0
          have hfz112_1 := bF BK298.out 1
          have hfz112_2 := bF BK298.out 2
          have hfz112_3 := bF BK298.out 3
          go_wp2_with (first | ((with_reducible refine gate_callee (f := 13) rfl ?_); refine goesL_ (some 118) rfl rfl Try.func13 (by kernel_rfl) rfl #[] rfl (by (try simp only [List.map_toArray, List.map_cons, List.map_nil]); first | done | rfl | (simp only [List.length_drop, List.length_take]; rfl)) ?_; (with_reducible refine (frisketlaw19_alive.calls  true _ A97.out).mono ?_); rintro e w113 ⟨rfl, hb⟩; refine ⟨_, rfl, ?_⟩; have n0_ := Aside0.mk (blk_below (g := gb274) (o := .cells #[.int .i64 a0_0, .int .i64 a0_1, .int .i64 a0_2] 26 (0, 0)) (by (with_reducible repeat (first | refine bN ?_ _ | refine bD ?_ | refine bA ?_ _)); exact BK274.out) hb); have n1_ := Aside0.mk (blk_below (g := gb275) (o := .cells #[.int .i64 a1_0, .int .i64 a1_1, .int .i64 a1_2, .int .i64 a1_3, .bool a1_4] 28 (0, 0)) (by (with_reducible repeat (first | refine bN ?_ _ | refine bD ?_ | refine bA ?_ _)); exact BK275.out) hb); have n2_ := Aside0.mk (blk_below (g := gb276) (o := .cells #[.int .i64 a2_0, .int .i64 a2_1, .int .i64 a2_2, .int .i64 a2_3, .bool a1_4] 28 (0, 0)) (by (with_reducible repeat (first | refine bN ?_ _ | refine bD ?_ | refine bA ?_ _)); exact BK276.out) hb); have n3_ := Aside0.mk (blk_below (g := gb287) (o := .cells #[.int .i64 t282, .int .i64 t283, .int .i64 t284, .int .i64 t285] 33 (0, 0)) (by (with_reducible repeat (first | refine bN ?_ _ | refine bD ?_ | refine bA ?_ _)); exact BK287.out) hb); have n4_ := Aside0.mk (blk_below (g := gb298) (o := .cells #[.int .i64 t293, .int .i64 t294, .int .i64 t295, .int .i64 t296] 33 (0, 0)) (by (with_reducible repeat (first | refine bN ?_ _ | refine bD ?_ | refine bA ?_ _)); exact BK298.out) hb); have n5_ := Aside0.mk (below_step (by repeat (first | (with_reducible first | exact HB.out | apply below_alloc | apply pw_below_drewN | apply below_drew1 | refine bS ?_ GE274.out | refine bS ?_ GE275.out | refine bS ?_ GE276.out | refine bS ?_ GE287.out | refine bS ?_ GE298.out) | exact HB.out)) hb); clear BK274; clear BK275; clear BK276; clear BK287; clear BK298; clear HB; have BK274 := n0_; have BK275 := n1_; have BK276 := n2_; have BK287 := n3_; have BK298 := n4_; have HB := n5_; clear n0_ n1_ n2_ n3_ n4_ n5_; (try clear hb); (try clear hb2); (try clear hk); (try clear hi)))
          go_ret
          exact ⟨by first | rfl | (simp [errW_none, errW_some] <;> rfl) | (simp [*, errW_none, errW_some] <;> rfl), by repeat (first | (with_reducible first | exact HB.out | apply below_alloc | apply pw_below_drewN | apply below_drew1 | refine bS ?_ GE274.out | refine bS ?_ GE275.out | refine bS ?_ GE276.out | refine bS ?_ GE287.out | refine bS ?_ GE298.out) | exact HB.out)⟩
         ·replace c98 := Bool.eq_false_iff.mpr c98
          subst c98
          have H1 : (some false) = some r := by rw [if_neg (show ¬ (false = true) by decide)] at H; exact H
          clear H
          have H := H1
          clear H1
          exact af_absurd HRT.out H (by repeat (first | exact AF.none | exact AF.false | refine AF.ite ?_ ?_ | refine AF.bind (fun _ => ?_)))
     ·rw [if_neg c42] at H
      have c42b0 : decide ((wrap64 (a1_2 + a1_3)) ≤ a2_2) = false := decide_eq_false c42
      clear c42
      by_cases c114 : (wrap64 (t282 + t284)) ≤ t293
      ·rw [if_pos c114] at H
       have c114b0 : decide ((wrap64 (t282 + t284)) ≤ t293) = true := decide_eq_true c114
       clear c114
       replace H := Option.bind_eq_some_iff.mp H
       obtain ⟨t304, A1150, H⟩ := H
       replace H : (if t304 = true then (some (true == true)) else (some false)) = some r := H
       have A115 := Aside0.mk A1150
       clear A1150
       by_cases c116 : t304 = true
       ·subst c116
        have H1 : (some (true == true)) = some r := by rw [if_pos rfl] at H; exact H
        clear H
        have H := H1
        clear H1
        obtain rfl := Option.some.inj H
        have hnb117 := NB275_274.out
        have hnc117 := NB274_275.out
        have hnb118 := NB275_276.out
        have hnc118 := NB276_275.out
        have hnb119 := NB275_287.out
        have hnc119 := NB287_275.out
        have hnb120 := NB275_298.out
        have hnc120 := NB298_275.out
        have hcz121_0 := cI BK275.out 0 rfl
        have hcz121_1 := cI BK275.out 1 rfl
        have hcz121_2 := cI BK275.out 2 rfl
        have hcz121_3 := cI BK275.out 3 rfl
        have hcz121_4 := cI BK275.out 4 rfl
        have hfz121_0 := bF BK275.out 0
        have hfz121_1 := bF BK275.out 1
        have hfz121_2 := bF BK275.out 2
        have hfz121_3 := bF BK275.out 3
        have hfz121_4 := bF BK275.out 4
        have hnb122 := NB276_274.out
        have hnc122 := NB274_276.out
        have hnb123 := NB276_287.out
        have hnc123 := NB287_276.out
        have hnb124 := NB276_298.out
        have hnc124 := NB298_276.out
        have hcz125_0 := cI BK276.out 0 rfl
        have hcz125_1 := cI BK276.out 1 rfl
        have hcz125_2 := cI BK276.out 2 rfl
        have hcz125_3 := cI BK276.out 3 rfl
        have hcz125_4 := cI BK276.out 4 rfl
        have hfz125_0 := bF BK276.out 0
        have hfz125_1 := bF BK276.out 1
        have hfz125_2 := bF BK276.out 2
        have hfz125_3 := bF BK276.out 3
        have hfz125_4 := bF BK276.out 4
        have hnb126 := NB287_274.out
        have hnc126 := NB274_287.out
        have hnb127 := NB287_298.out
        have hnc127 := NB298_287.out
        have hcz128_0 := cI BK287.out 0 rfl
        have hcz128_1 := cI BK287.out 1 rfl
        have hcz128_2 := cI BK287.out 2 rfl
        have hcz128_3 := cI BK287.out 3 rfl
        have hfz128_0 := bF BK287.out 0
        have hfz128_1 := bF BK287.out 1
        have hfz128_2 := bF BK287.out 2
        have hfz128_3 := bF BK287.out 3
        have hnb129 := NB298_274.out
        have hnc129 := NB274_298.out
        have hcz130_0 := cI BK298.out 0 rfl
        have hcz130_1 := cI BK298.out 1 rfl
        have hcz130_2 := cI BK298.out 2 rfl
        have hcz130_3 := cI BK298.out 3 rfl
        have hfz130_0 := bF BK298.out 0
        have hfz130_1 := bF BK298.out 1
        have hfz130_2 := bF BK298.out 2
        have hfz130_3 := bF BK298.out 3
        go_wp2_with (first | ((with_reducible refine gate_callee (f := 13) rfl ?_); refine goesL_ (some 118) rfl rfl Try.func13 (by kernel_rfl) rfl #[] rfl (by (try simp only [List.map_toArray, List.map_cons, List.map_nil]); first | done | rfl | (simp only [List.length_drop, List.length_take]; rfl)) ?_; (with_reducible refine (frisketlaw19_alive.calls  true _ A115.out).mono ?_); rintro e w131 ⟨rfl, hb⟩; refine ⟨_, rfl, ?_⟩; have n0_ := Aside0.mk (blk_below (g := gb274) (o := .cells #[.int .i64 a0_0, .int .i64 a0_1, .int .i64 a0_2] 26 (0, 0)) (by (with_reducible repeat (first | refine bN ?_ _ | refine bD ?_ | refine bA ?_ _)); exact BK274.out) hb); have n1_ := Aside0.mk (blk_below (g := gb275) (o := .cells #[.int .i64 a1_0, .int .i64 a1_1, .int .i64 a1_2, .int .i64 a1_3, .bool a1_4] 28 (0, 0)) (by (with_reducible repeat (first | refine bN ?_ _ | refine bD ?_ | refine bA ?_ _)); exact BK275.out) hb); have n2_ := Aside0.mk (blk_below (g := gb276) (o := .cells #[.int .i64 a2_0, .int .i64 a2_1, .int .i64 a2_2, .int .i64 a2_3, .bool a1_4] 28 (0, 0)) (by (with_reducible repeat (first | refine bN ?_ _ | refine bD ?_ | refine bA ?_ _)); exact BK276.out) hb); have n3_ := Aside0.mk (blk_below (g := gb287) (o := .cells #[.int .i64 t282, .int .i64 t283, .int .i64 t284, .int .i64 t285] 33 (0, 0)) (by (with_reducible repeat (first | refine bN ?_ _ | refine bD ?_ | refine bA ?_ _)); exact BK287.out) hb); have n4_ := Aside0.mk (blk_below (g := gb298) (o := .cells #[.int .i64 t293, .int .i64 t294, .int .i64 t295, .int .i64 t296] 33 (0, 0)) (by (with_reducible repeat (first | refine bN ?_ _ | refine bD ?_ | refine bA ?_ _)); exact BK298.out) hb); have n5_ := Aside0.mk (below_step (by repeat (first | (with_reducible first | exact HB.out | apply below_alloc | apply pw_below_drewN | apply below_drew1 | refine bS ?_ GE274.out | refine bS ?_ GE275.out | refine bS ?_ GE276.out | refine bS ?_ GE287.out | refine bS ?_ GE298.out) | exact HB.out)) hb); clear BK274; clear BK275; clear BK276; clear BK287; clear BK298; clear HB; have BK274 := n0_; have BK275 := n1_; have BK276 := n2_; have BK287 := n3_; have BK298 := n4_; have HB := n5_; clear n0_ n1_ n2_ n3_ n4_ n5_; (try clear hb); (try clear hb2); (try clear hk); (try clear hi)))
        go_ret
        exact ⟨by first | rfl | (simp [errW_none, errW_some] <;> rfl) | (simp [*, errW_none, errW_some] <;> rfl), by repeat (first | (with_reducible first | exact HB.out | apply below_alloc | apply pw_below_drewN | apply below_drew1 | refine bS ?_ GE274.out | refine bS ?_ GE275.out | refine bS ?_ GE276.out | refine bS ?_ GE287.out | refine bS ?_ GE298.out) | exact HB.out)⟩
       ·replace c116 := Bool.eq_false_iff.mpr c116
        subst c116
        have H1 : (some false) = some r := by rw [if_neg (show ¬ (false = true) by decide)] at H; exact H
        clear H
        have H := H1
        clear H1
        exact af_absurd HRT.out H (by repeat (first | exact AF.none | exact AF.false | refine AF.ite ?_ ?_ | refine AF.bind (fun _ => ?_)))
      ·rw [if_neg c114] at H
       have c114b0 : decide ((wrap64 (t282 + t284)) ≤ t293) = false := decide_eq_false c114
       clear c114
       by_cases c132 : (wrap64 (t293 + t295)) ≤ t282
       ·rw [if_pos c132] at H
        have c132b0 : decide ((wrap64 (t293 + t295)) ≤ t282) = true := decide_eq_true c132
        clear c132
        replace H := Option.bind_eq_some_iff.mp H
        obtain ⟨t305, A1330, H⟩ := H
        replace H : (if t305 = true then (some (true == true)) else (some false)) = some r := H
        have A133 := Aside0.mk A1330
        clear A1330
        by_cases c134 : t305 = true
        ·subst c134
         have H1 : (some (true == true)) = some r := by rw [if_pos rfl] at H; exact H
         clear H
         have H := H1
         clear H1
         obtain rfl := Option.some.inj H
         have hnb135 := NB275_274.out
         have hnc135 := NB274_275.out
         have hnb136 := NB275_276.out
         have hnc136 := NB276_275.out
         have hnb137 := NB275_287.out
         have hnc137 := NB287_275.out
         have hnb138 := NB275_298.out
         have hnc138 := NB298_275.out
         have hcz139_0 := cI BK275.out 0 rfl
         have hcz139_1 := cI BK275.out 1 rfl
         have hcz139_2 := cI BK275.out 2 rfl
         have hcz139_3 := cI BK275.out 3 rfl
         have hcz139_4 := cI BK275.out 4 rfl
         have hfz139_0 := bF BK275.out 0
         have hfz139_1 := bF BK275.out 1
         have hfz139_2 := bF BK275.out 2
         have hfz139_3 := bF BK275.out 3
         have hfz139_4 := bF BK275.out 4
         have hnb140 := NB276_274.out
         have hnc140 := NB274_276.out
         have hnb141 := NB276_287.out
         have hnc141 := NB287_276.out
         have hnb142 := NB276_298.out
         have hnc142 := NB298_276.out
         have hcz143_0 := cI BK276.out 0 rfl
         have hcz143_1 := cI BK276.out 1 rfl
         have hcz143_2 := cI BK276.out 2 rfl
         have hcz143_3 := cI BK276.out 3 rfl
         have hcz143_4 := cI BK276.out 4 rfl
         have hfz143_0 := bF BK276.out 0
         have hfz143_1 := bF BK276.out 1
         have hfz143_2 := bF BK276.out 2
         have hfz143_3 := bF BK276.out 3
         have hfz143_4 := bF BK276.out 4
         have hnb144 := NB287_274.out
         have hnc144 := NB274_287.out
         have hnb145 := NB287_298.out
         have hnc145 := NB298_287.out
         have hcz146_0 := cI BK287.out 0 rfl
         have hcz146_1 := cI BK287.out 1 rfl
         have hcz146_2 := cI BK287.out 2 rfl
         have hcz146_3 := cI BK287.out 3 rfl
         have hfz146_0 := bF BK287.out 0
         have hfz146_1 := bF BK287.out 1
         have hfz146_2 := bF BK287.out 2
         have hfz146_3 := bF BK287.out 3
         have hnb147 := NB298_274.out
         have hnc147 := NB274_298.out
         have hcz148_0 := cI BK298.out 0 rfl
         have hcz148_1 := cI BK298.out 1 rfl
         have hcz148_2 := cI BK298.out 2 rfl
         have hcz148_3 := cI BK298.out 3 rfl
         have hfz148_0 := bF BK298.out 0
         have hfz148_1 := bF BK298.out 1
         have hfz148_2 := bF BK298.out 2
         have hfz148_3 := bF BK298.out 3
         go_wp2_with (first | ((with_reducible refine gate_callee (f := 13) rfl ?_); refine goesL_ (some 118) rfl rfl Try.func13 (by kernel_rfl) rfl #[] rfl (by (try simp only [List.map_toArray, List.map_cons, List.map_nil]); first | done | rfl | (simp only [List.length_drop, List.length_take]; rfl)) ?_; (with_reducible refine (frisketlaw19_alive.calls  true _ A133.out).mono ?_); rintro e w149 ⟨rfl, hb⟩; refine ⟨_, rfl, ?_⟩; have n0_ := Aside0.mk (blk_below (g := gb274) (o := .cells #[.int .i64 a0_0, .int .i64 a0_1, .int .i64 a0_2] 26 (0, 0)) (by (with_reducible repeat (first | refine bN ?_ _ | refine bD ?_ | refine bA ?_ _)); exact BK274.out) hb); have n1_ := Aside0.mk (blk_below (g := gb275) (o := .cells #[.int .i64 a1_0, .int .i64 a1_1, .int .i64 a1_2, .int .i64 a1_3, .bool a1_4] 28 (0, 0)) (by (with_reducible repeat (first | refine bN ?_ _ | refine bD ?_ | refine bA ?_ _)); exact BK275.out) hb); have n2_ := Aside0.mk (blk_below (g := gb276) (o := .cells #[.int .i64 a2_0, .int .i64 a2_1, .int .i64 a2_2, .int .i64 a2_3, .bool a1_4] 28 (0, 0)) (by (with_reducible repeat (first | refine bN ?_ _ | refine bD ?_ | refine bA ?_ _)); exact BK276.out) hb); have n3_ := Aside0.mk (blk_below (g := gb287) (o := .cells #[.int .i64 t282, .int .i64 t283, .int .i64 t284, .int .i64 t285] 33 (0, 0)) (by (with_reducible repeat (first | refine bN ?_ _ | refine bD ?_ | refine bA ?_ _)); exact BK287.out) hb); have n4_ := Aside0.mk (blk_below (g := gb298) (o := .cells #[.int .i64 t293, .int .i64 t294, .int .i64 t295, .int .i64 t296] 33 (0, 0)) (by (with_reducible repeat (first | refine bN ?_ _ | refine bD ?_ | refine bA ?_ _)); exact BK298.out) hb); have n5_ := Aside0.mk (below_step (by repeat (first | (with_reducible first | exact HB.out | apply below_alloc | apply pw_below_drewN | apply below_drew1 | refine bS ?_ GE274.out | refine bS ?_ GE275.out | refine bS ?_ GE276.out | refine bS ?_ GE287.out | refine bS ?_ GE298.out) | exact HB.out)) hb); clear BK274; clear BK275; clear BK276; clear BK287; clear BK298; clear HB; have BK274 := n0_; have BK275 := n1_; have BK276 := n2_; have BK287 := n3_; have BK298 := n4_; have HB := n5_; clear n0_ n1_ n2_ n3_ n4_ n5_; (try clear hb); (try clear hb2); (try clear hk); (try clear hi)))
         go_ret
         exact ⟨by first | rfl | (simp [errW_none, errW_some] <;> rfl) | (simp [*, errW_none, errW_some] <;> rfl), by repeat (first | (with_reducible first | exact HB.out | apply below_alloc | apply pw_below_drewN | apply below_drew1 | refine bS ?_ GE274.out | refine bS ?_ GE275.out | refine bS ?_ GE276.out | refine bS ?_ GE287.out | refine bS ?_ GE298.out) | exact HB.out)⟩
        ·replace c134 := Bool.eq_false_iff.mpr c134
         subst c134
         have H1 : (some false) = some r := by rw [if_neg (show ¬ (false = true) by decide)] at H; exact H
         clear H
         have H := H1
         clear H1
         exact af_absurd HRT.out H (by repeat (first | exact AF.none | exact AF.false | refine AF.ite ?_ ?_ | refine AF.bind (fun _ => ?_)))
       ·rw [if_neg c132] at H
        have c132b0 : decide ((wrap64 (t293 + t295)) ≤ t282) = false := decide_eq_false c132
        clear c132
        by_cases c150 : (wrap64 (t283 + t285)) ≤ t294
        ·rw [if_pos c150] at H
         have c150b0 : decide ((wrap64 (t283 + t285)) ≤ t294) = true := decide_eq_true c150
         clear c150
         replace H := Option.bind_eq_some_iff.mp H
         obtain ⟨t306, A1510, H⟩ := H
         replace H : (if t306 = true then (some (true == true)) else (some false)) = some r := H
         have A151 := Aside0.mk A1510
         clear A1510
         by_cases c152 : t306 = true
         ·subst c152
          have H1 : (some (true == true)) = some r := by rw [if_pos rfl] at H; exact H
          clear H
          have H := H1
          clear H1
          obtain rfl := Option.some.inj H
          have hnb153 := NB275_274.out
          have hnc153 := NB274_275.out
          have hnb154 := NB275_276.out
          have hnc154 := NB276_275.out
          have hnb155 := NB275_287.out
          have hnc155 := NB287_275.out
          have hnb156 := NB275_298.out
          have hnc156 := NB298_275.out
          have hcz157_0 := cI BK275.out 0 rfl
          have hcz157_1 := cI BK275.out 1 rfl
          have hcz157_2 := cI BK275.out 2 rfl
          have hcz157_3 := cI BK275.out 3 rfl
          have hcz157_4 := cI BK275.out 4 rfl
          have hfz157_0 := bF BK275.out 0
          have hfz157_1 := bF BK275.out 1
          have hfz157_2 := bF BK275.out 2
          have hfz157_3 := bF BK275.out 3
          have hfz157_4 := bF BK275.out 4
          have hnb158 := NB276_274.out
          have hnc158 := NB274_276.out
          have hnb159 := NB276_287.out
          have hnc159 := NB287_276.out
          have hnb160 := NB276_298.out
          have hnc160 := NB298_276.out
          have hcz161_0 := cI BK276.out 0 rfl
          have hcz161_1 := cI BK276.out 1 rfl
          have hcz161_2 := cI BK276.out 2 rfl
          have hcz161_3 := cI BK276.out 3 rfl
          have hcz161_4 := cI BK276.out 4 rfl
          have hfz161_0 := bF BK276.out 0
          have hfz161_1 := bF BK276.out 1
          have hfz161_2 := bF BK276.out 2
          have hfz161_3 := bF BK276.out 3
          have hfz161_4 := bF BK276.out 4
          have hnb162 := NB287_274.out
          have hnc162 := NB274_287.out
          have hnb163 := NB287_298.out
          have hnc163 := NB298_287.out
          have hcz164_0 := cI BK287.out 0 rfl
          have hcz164_1 := cI BK287.out 1 rfl
          have hcz164_2 := cI BK287.out 2 rfl
          have hcz164_3 := cI BK287.out 3 rfl
          have hfz164_0 := bF BK287.out 0
          have hfz164_1 := bF BK287.out 1
          have hfz164_2 := bF BK287.out 2
          have hfz164_3 := bF BK287.out 3
          have hnb165 := NB298_274.out
          have hnc165 := NB274_298.out
          have hcz166_0 := cI BK298.out 0 rfl
          have hcz166_1 := cI BK298.out 1 rfl
          have hcz166_2 := cI BK298.out 2 rfl
          have hcz166_3 := cI BK298.out 3 rfl
          have hfz166_0 := bF BK298.out 0
          have hfz166_1 := bF BK298.out 1
          have hfz166_2 := bF BK298.out 2
          have hfz166_3 := bF BK298.out 3
          go_wp2_with (first | ((with_reducible refine gate_callee (f := 13) rfl ?_); refine goesL_ (some 118) rfl rfl Try.func13 (by kernel_rfl) rfl #[] rfl (by (try simp only [List.map_toArray, List.map_cons, List.map_nil]); first | done | rfl | (simp only [List.length_drop, List.length_take]; rfl)) ?_; (with_reducible refine (frisketlaw19_alive.calls  true _ A151.out).mono ?_); rintro e w167 ⟨rfl, hb⟩; refine ⟨_, rfl, ?_⟩; have n0_ := Aside0.mk (blk_below (g := gb274) (o := .cells #[.int .i64 a0_0, .int .i64 a0_1, .int .i64 a0_2] 26 (0, 0)) (by (with_reducible repeat (first | refine bN ?_ _ | refine bD ?_ | refine bA ?_ _)); exact BK274.out) hb); have n1_ := Aside0.mk (blk_below (g := gb275) (o := .cells #[.int .i64 a1_0, .int .i64 a1_1, .int .i64 a1_2, .int .i64 a1_3, .bool a1_4] 28 (0, 0)) (by (with_reducible repeat (first | refine bN ?_ _ | refine bD ?_ | refine bA ?_ _)); exact BK275.out) hb); have n2_ := Aside0.mk (blk_below (g := gb276) (o := .cells #[.int .i64 a2_0, .int .i64 a2_1, .int .i64 a2_2, .int .i64 a2_3, .bool a1_4] 28 (0, 0)) (by (with_reducible repeat (first | refine bN ?_ _ | refine bD ?_ | refine bA ?_ _)); exact BK276.out) hb); have n3_ := Aside0.mk (blk_below (g := gb287) (o := .cells #[.int .i64 t282, .int .i64 t283, .int .i64 t284, .int .i64 t285] 33 (0, 0)) (by (with_reducible repeat (first | refine bN ?_ _ | refine bD ?_ | refine bA ?_ _)); exact BK287.out) hb); have n4_ := Aside0.mk (blk_below (g := gb298) (o := .cells #[.int .i64 t293, .int .i64 t294, .int .i64 t295, .int .i64 t296] 33 (0, 0)) (by (with_reducible repeat (first | refine bN ?_ _ | refine bD ?_ | refine bA ?_ _)); exact BK298.out) hb); have n5_ := Aside0.mk (below_step (by repeat (first | (with_reducible first | exact HB.out | apply below_alloc | apply pw_below_drewN | apply below_drew1 | refine bS ?_ GE274.out | refine bS ?_ GE275.out | refine bS ?_ GE276.out | refine bS ?_ GE287.out | refine bS ?_ GE298.out) | exact HB.out)) hb); clear BK274; clear BK275; clear BK276; clear BK287; clear BK298; clear HB; have BK274 := n0_; have BK275 := n1_; have BK276 := n2_; have BK287 := n3_; have BK298 := n4_; have HB := n5_; clear n0_ n1_ n2_ n3_ n4_ n5_; (try clear hb); (try clear hb2); (try clear hk); (try clear hi)))
          go_ret
          exact ⟨by first | rfl | (simp [errW_none, errW_some] <;> rfl) | (simp [*, errW_none, errW_some] <;> rfl), by repeat (first | (with_reducible first | exact HB.out | apply below_alloc | apply pw_below_drewN | apply below_drew1 | refine bS ?_ GE274.out | refine bS ?_ GE275.out | refine bS ?_ GE276.out | refine bS ?_ GE287.out | refine bS ?_ GE298.out) | exact HB.out)⟩
         ·replace c152 := Bool.eq_false_iff.mpr c152
          subst c152
          have H1 : (some false) = some r := by rw [if_neg (show ¬ (false = true) by decide)] at H; exact H
          clear H
          have H := H1
          clear H1
          exact af_absurd HRT.out H (by repeat (first | exact AF.none | exact AF.false | refine AF.ite ?_ ?_ | refine AF.bind (fun _ => ?_)))
        ·rw [if_neg c150] at H
         have c150b0 : decide ((wrap64 (t283 + t285)) ≤ t294) = false := decide_eq_false c150
         clear c150
         replace H := Option.bind_eq_some_iff.mp H
         obtain ⟨t307, A1680, H⟩ := H
         replace H : (if t307 = true then (some ((decide ((wrap64 (t294 + t296)) ≤ t283)) == true)) else (some false)) = some r := H
         have A168 := Aside0.mk A1680
         clear A1680
         by_cases c169 : t307 = true
         ·subst c169
          have H1 : (some ((decide ((wrap64 (t294 + t296)) ≤ t283)) == true)) = some r := by rw [if_pos rfl] at H; exact H
          clear H
          have H := H1
          clear H1
          obtain rfl := Option.some.inj H
          have hnb170 := NB275_274.out
          have hnc170 := NB274_275.out
          have hnb171 := NB275_276.out
          have hnc171 := NB276_275.out
          have hnb172 := NB275_287.out
          have hnc172 := NB287_275.out
          have hnb173 := NB275_298.out
          have hnc173 := NB298_275.out
          have hcz174_0 := cI BK275.out 0 rfl
          have hcz174_1 := cI BK275.out 1 rfl
          have hcz174_2 := cI BK275.out 2 rfl
          have hcz174_3 := cI BK275.out 3 rfl
          have hcz174_4 := cI BK275.out 4 rfl
          have hfz174_0 := bF BK275.out 0
          have hfz174_1 := bF BK275.out 1
          have hfz174_2 := bF BK275.out 2
          have hfz174_3 := bF BK275.out 3
          have hfz174_4 := bF BK275.out 4
          have hnb175 := NB276_274.out
          have hnc175 := NB274_276.out
          have hnb176 := NB276_287.out
          have hnc176 := NB287_276.out
          have hnb177 := NB276_298.out
          have hnc177 := NB298_276.out
          have hcz178_0 := cI BK276.out 0 rfl
          have hcz178_1 := cI BK276.out 1 rfl
          have hcz178_2 := cI BK276.out 2 rfl
          have hcz178_3 := cI BK276.out 3 rfl
          have hcz178_4 := cI BK276.out 4 rfl
          have hfz178_0 := bF BK276.out 0
          have hfz178_1 := bF BK276.out 1
          have hfz178_2 := bF BK276.out 2
          have hfz178_3 := bF BK276.out 3
          have hfz178_4 := bF BK276.out 4
          have hnb179 := NB287_274.out
          have hnc179 := NB274_287.out
          have hnb180 := NB287_298.out
          have hnc180 := NB298_287.out
          have hcz181_0 := cI BK287.out 0 rfl
          have hcz181_1 := cI BK287.out 1 rfl
          have hcz181_2 := cI BK287.out 2 rfl
          have hcz181_3 := cI BK287.out 3 rfl
          have hfz181_0 := bF BK287.out 0
          have hfz181_1 := bF BK287.out 1
          have hfz181_2 := bF BK287.out 2
          have hfz181_3 := bF BK287.out 3
          have hnb182 := NB298_274.out
          have hnc182 := NB274_298.out
          have hcz183_0 := cI BK298.out 0 rfl
          have hcz183_1 := cI BK298.out 1 rfl
          have hcz183_2 := cI BK298.out 2 rfl
          have hcz183_3 := cI BK298.out 3 rfl
          have hfz183_0 := bF BK298.out 0
          have hfz183_1 := bF BK298.out 1
          have hfz183_2 := bF BK298.out 2
          have hfz183_3 := bF BK298.out 3
          go_wp2_with (first | ((with_reducible refine gate_callee (f := 13) rfl ?_); refine goesL_ (some 118) rfl rfl Try.func13 (by kernel_rfl) rfl #[] rfl (by (try simp only [List.map_toArray, List.map_cons, List.map_nil]); first | done | rfl | (simp only [List.length_drop, List.length_take]; rfl)) ?_; (with_reducible refine (frisketlaw19_alive.calls  true _ A168.out).mono ?_); rintro e w184 ⟨rfl, hb⟩; refine ⟨_, rfl, ?_⟩; have n0_ := Aside0.mk (blk_below (g := gb274) (o := .cells #[.int .i64 a0_0, .int .i64 a0_1, .int .i64 a0_2] 26 (0, 0)) (by (with_reducible repeat (first | refine bN ?_ _ | refine bD ?_ | refine bA ?_ _)); exact BK274.out) hb); have n1_ := Aside0.mk (blk_below (g := gb275) (o := .cells #[.int .i64 a1_0, .int .i64 a1_1, .int .i64 a1_2, .int .i64 a1_3, .bool a1_4] 28 (0, 0)) (by (with_reducible repeat (first | refine bN ?_ _ | refine bD ?_ | refine bA ?_ _)); exact BK275.out) hb); have n2_ := Aside0.mk (blk_below (g := gb276) (o := .cells #[.int .i64 a2_0, .int .i64 a2_1, .int .i64 a2_2, .int .i64 a2_3, .bool a1_4] 28 (0, 0)) (by (with_reducible repeat (first | refine bN ?_ _ | refine bD ?_ | refine bA ?_ _)); exact BK276.out) hb); have n3_ := Aside0.mk (blk_below (g := gb287) (o := .cells #[.int .i64 t282, .int .i64 t283, .int .i64 t284, .int .i64 t285] 33 (0, 0)) (by (with_reducible repeat (first | refine bN ?_ _ | refine bD ?_ | refine bA ?_ _)); exact BK287.out) hb); have n4_ := Aside0.mk (blk_below (g := gb298) (o := .cells #[.int .i64 t293, .int .i64 t294, .int .i64 t295, .int .i64 t296] 33 (0, 0)) (by (with_reducible repeat (first | refine bN ?_ _ | refine bD ?_ | refine bA ?_ _)); exact BK298.out) hb); have n5_ := Aside0.mk (below_step (by repeat (first | (with_reducible first | exact HB.out | apply below_alloc | apply pw_below_drewN | apply below_drew1 | refine bS ?_ GE274.out | refine bS ?_ GE275.out | refine bS ?_ GE276.out | refine bS ?_ GE287.out | refine bS ?_ GE298.out) | exact HB.out)) hb); clear BK274; clear BK275; clear BK276; clear BK287; clear BK298; clear HB; have BK274 := n0_; have BK275 := n1_; have BK276 := n2_; have BK287 := n3_; have BK298 := n4_; have HB := n5_; clear n0_ n1_ n2_ n3_ n4_ n5_; (try clear hb); (try clear hb2); (try clear hk); (try clear hi)))
          go_ret
          exact ⟨by first | rfl | (simp [errW_none, errW_some] <;> rfl) | (simp [*, errW_none, errW_some] <;> rfl), by repeat (first | (with_reducible first | exact HB.out | apply below_alloc | apply pw_below_drewN | apply below_drew1 | refine bS ?_ GE274.out | refine bS ?_ GE275.out | refine bS ?_ GE276.out | refine bS ?_ GE287.out | refine bS ?_ GE298.out) | exact HB.out)⟩
         ·replace c169 := Bool.eq_false_iff.mpr c169
          subst c169
          have H1 : (some false) = some r := by rw [if_neg (show ¬ (false = true) by decide)] at H; exact H
          clear H
          have H := H1
          clear H1
          exact af_absurd HRT.out H (by repeat (first | exact AF.none | exact AF.false | refine AF.ite ?_ ?_ | refine AF.bind (fun _ => ?_)))
    ·rw [if_neg c41] at H
     have c41b0 : decide ((wrap64 (a1_0 + a1_1)) ≤ a2_0) = false := decide_eq_false c41
     clear c41
     by_cases c185 : (wrap64 (a1_2 + a1_3)) ≤ a2_2
     ·rw [if_pos c185] at H
      have c185b0 : decide ((wrap64 (a1_2 + a1_3)) ≤ a2_2) = true := decide_eq_true c185
      clear c185
      by_cases c186 : (wrap64 (t282 + t284)) ≤ t293
      ·rw [if_pos c186] at H
       have c186b0 : decide ((wrap64 (t282 + t284)) ≤ t293) = true := decide_eq_true c186
       clear c186
       replace H := Option.bind_eq_some_iff.mp H
       obtain ⟨t308, A1870, H⟩ := H
       replace H : (if t308 = true then (if (wrap64 (a2_0 + a2_1)) ≤ a1_0 then (some (true == true)) else (some (true == true))) else (some false)) = some r := H
       have A187 := Aside0.mk A1870
       clear A1870
       by_cases c188 : t308 = true
       ·subst c188
        have H1 : (if (wrap64 (a2_0 + a2_1)) ≤ a1_0 then (some (true == true)) else (some (true == true))) = some r := by rw [if_pos rfl] at H; exact H
        clear H
        have H := H1
        clear H1
        by_cases c189 : (wrap64 (a2_0 + a2_1)) ≤ a1_0
        ·rw [if_pos c189] at H
         have c189b0 : decide ((wrap64 (a2_0 + a2_1)) ≤ a1_0) = true := decide_eq_true c189
         clear c189
         obtain rfl := Option.some.inj H
         have hnb190 := NB275_274.out
         have hnc190 := NB274_275.out
         have hnb191 := NB275_276.out
         have hnc191 := NB276_275.out
         have hnb192 := NB275_287.out
         have hnc192 := NB287_275.out
         have hnb193 := NB275_298.out
         have hnc193 := NB298_275.out
         have hcz194_0 := cI BK275.out 0 rfl
         have hcz194_1 := cI BK275.out 1 rfl
         have hcz194_2 := cI BK275.out 2 rfl
         have hcz194_3 := cI BK275.out 3 rfl
         have hcz194_4 := cI BK275.out 4 rfl
         have hfz194_0 := bF BK275.out 0
         have hfz194_1 := bF BK275.out 1
         have hfz194_2 := bF BK275.out 2
         have hfz194_3 := bF BK275.out 3
         have hfz194_4 := bF BK275.out 4
         have hnb195 := NB276_274.out
         have hnc195 := NB274_276.out
         have hnb196 := NB276_287.out
         have hnc196 := NB287_276.out
         have hnb197 := NB276_298.out
         have hnc197 := NB298_276.out
         have hcz198_0 := cI BK276.out 0 rfl
         have hcz198_1 := cI BK276.out 1 rfl
         have hcz198_2 := cI BK276.out 2 rfl
         have hcz198_3 := cI BK276.out 3 rfl
         have hcz198_4 := cI BK276.out 4 rfl
         have hfz198_0 := bF BK276.out 0
         have hfz198_1 := bF BK276.out 1
         have hfz198_2 := bF BK276.out 2
         have hfz198_3 := bF BK276.out 3
         have hfz198_4 := bF BK276.out 4
         have hnb199 := NB287_274.out
         have hnc199 := NB274_287.out
         have hnb200 := NB287_298.out
         have hnc200 := NB298_287.out
         have hcz201_0 := cI BK287.out 0 rfl
         have hcz201_1 := cI BK287.out 1 rfl
         have hcz201_2 := cI BK287.out 2 rfl
         have hcz201_3 := cI BK287.out 3 rfl
         have hfz201_0 := bF BK287.out 0
         have hfz201_1 := bF BK287.out 1
         have hfz201_2 := bF BK287.out 2
         have hfz201_3 := bF BK287.out 3
         have hnb202 := NB298_274.out
         have hnc202 := NB274_298.out
         have hcz203_0 := cI BK298.out 0 rfl
         have hcz203_1 := cI BK298.out 1 rfl
         have hcz203_2 := cI BK298.out 2 rfl
         have hcz203_3 := cI BK298.out 3 rfl
         have hfz203_0 := bF BK298.out 0
         have hfz203_1 := bF BK298.out 1
         have hfz203_2 := bF BK298.out 2
         have hfz203_3 := bF BK298.out 3
         go_wp2_with (first | ((with_reducible refine gate_callee (f := 13) rfl ?_); refine goesL_ (some 118) rfl rfl Try.func13 (by kernel_rfl) rfl #[] rfl (by (try simp only [List.map_toArray, List.map_cons, List.map_nil]); first | done | rfl | (simp only [List.length_drop, List.length_take]; rfl)) ?_; (with_reducible refine (frisketlaw19_alive.calls  true _ A187.out).mono ?_); rintro e w204 ⟨rfl, hb⟩; refine ⟨_, rfl, ?_⟩; have n0_ := Aside0.mk (blk_below (g := gb274) (o := .cells #[.int .i64 a0_0, .int .i64 a0_1, .int .i64 a0_2] 26 (0, 0)) (by (with_reducible repeat (first | refine bN ?_ _ | refine bD ?_ | refine bA ?_ _)); exact BK274.out) hb); have n1_ := Aside0.mk (blk_below (g := gb275) (o := .cells #[.int .i64 a1_0, .int .i64 a1_1, .int .i64 a1_2, .int .i64 a1_3, .bool a1_4] 28 (0, 0)) (by (with_reducible repeat (first | refine bN ?_ _ | refine bD ?_ | refine bA ?_ _)); exact BK275.out) hb); have n2_ := Aside0.mk (blk_below (g := gb276) (o := .cells #[.int .i64 a2_0, .int .i64 a2_1, .int .i64 a2_2, .int .i64 a2_3, .bool a1_4] 28 (0, 0)) (by (with_reducible repeat (first | refine bN ?_ _ | refine bD ?_ | refine bA ?_ _)); exact BK276.out) hb); have n3_ := Aside0.mk (blk_below (g := gb287) (o := .cells #[.int .i64 t282, .int .i64 t283, .int .i64 t284, .int .i64 t285] 33 (0, 0)) (by (with_reducible repeat (first | refine bN ?_ _ | refine bD ?_ | refine bA ?_ _)); exact BK287.out) hb); have n4_ := Aside0.mk (blk_below (g := gb298) (o := .cells #[.int .i64 t293, .int .i64 t294, .int .i64 t295, .int .i64 t296] 33 (0, 0)) (by (with_reducible repeat (first | refine bN ?_ _ | refine bD ?_ | refine bA ?_ _)); exact BK298.out) hb); have n5_ := Aside0.mk (below_step (by repeat (first | (with_reducible first | exact HB.out | apply below_alloc | apply pw_below_drewN | apply below_drew1 | refine bS ?_ GE274.out | refine bS ?_ GE275.out | refine bS ?_ GE276.out | refine bS ?_ GE287.out | refine bS ?_ GE298.out) | exact HB.out)) hb); clear BK274; clear BK275; clear BK276; clear BK287; clear BK298; clear HB; have BK274 := n0_; have BK275 := n1_; have BK276 := n2_; have BK287 := n3_; have BK298 := n4_; have HB := n5_; clear n0_ n1_ n2_ n3_ n4_ n5_; (try clear hb); (try clear hb2); (try clear hk); (try clear hi)))
         go_ret
         exact ⟨by first | rfl | (simp [errW_none, errW_some] <;> rfl) | (simp [*, errW_none, errW_some] <;> rfl), by repeat (first | (with_reducible first | exact HB.out | apply below_alloc | apply pw_below_drewN | apply below_drew1 | refine bS ?_ GE274.out | refine bS ?_ GE275.out | refine bS ?_ GE276.out | refine bS ?_ GE287.out | refine bS ?_ GE298.out) | exact HB.out)⟩
        ·rw [if_neg c189] at H
         have c189b0 : decide ((wrap64 (a2_0 + a2_1)) ≤ a1_0) = false := decide_eq_false c189
         clear c189
         obtain rfl := Option.some.inj H
         have hnb205 := NB275_274.out
         have hnc205 := NB274_275.out
         have hnb206 := NB275_276.out
         have hnc206 := NB276_275.out
         have hnb207 := NB275_287.out
         have hnc207 := NB287_275.out
         have hnb208 := NB275_298.out
         have hnc208 := NB298_275.out
         have hcz209_0 := cI BK275.out 0 rfl
         have hcz209_1 := cI BK275.out 1 rfl
         have hcz209_2 := cI BK275.out 2 rfl
         have hcz209_3 := cI BK275.out 3 rfl
         have hcz209_4 := cI BK275.out 4 rfl
         have hfz209_0 := bF BK275.out 0
         have hfz209_1 := bF BK275.out 1
         have hfz209_2 := bF BK275.out 2
         have hfz209_3 := bF BK275.out 3
         have hfz209_4 := bF BK275.out 4
         have hnb210 := NB276_274.out
         have hnc210 := NB274_276.out
         have hnb211 := NB276_287.out
         have hnc211 := NB287_276.out
         have hnb212 := NB276_298.out
         have hnc212 := NB298_276.out
         have hcz213_0 := cI BK276.out 0 rfl
         have hcz213_1 := cI BK276.out 1 rfl
         have hcz213_2 := cI BK276.out 2 rfl
         have hcz213_3 := cI BK276.out 3 rfl
         have hcz213_4 := cI BK276.out 4 rfl
         have hfz213_0 := bF BK276.out 0
         have hfz213_1 := bF BK276.out 1
         have hfz213_2 := bF BK276.out 2
         have hfz213_3 := bF BK276.out 3
         have hfz213_4 := bF BK276.out 4
         have hnb214 := NB287_274.out
         have hnc214 := NB274_287.out
         have hnb215 := NB287_298.out
         have hnc215 := NB298_287.out
         have hcz216_0 := cI BK287.out 0 rfl
         have hcz216_1 := cI BK287.out 1 rfl
         have hcz216_2 := cI BK287.out 2 rfl
         have hcz216_3 := cI BK287.out 3 rfl
         have hfz216_0 := bF BK287.out 0
         have hfz216_1 := bF BK287.out 1
         have hfz216_2 := bF BK287.out 2
         have hfz216_3 := bF BK287.out 3
         have hnb217 := NB298_274.out
         have hnc217 := NB274_298.out
         have hcz218_0 := cI BK298.out 0 rfl
         have hcz218_1 := cI BK298.out 1 rfl
         have hcz218_2 := cI BK298.out 2 rfl
         have hcz218_3 := cI BK298.out 3 rfl
         have hfz218_0 := bF BK298.out 0
         have hfz218_1 := bF BK298.out 1
         have hfz218_2 := bF BK298.out 2
         have hfz218_3 := bF BK298.out 3
         go_wp2_with (first | ((with_reducible refine gate_callee (f := 13) rfl ?_); refine goesL_ (some 118) rfl rfl Try.func13 (by kernel_rfl) rfl #[] rfl (by (try simp only [List.map_toArray, List.map_cons, List.map_nil]); first | done | rfl | (simp only [List.length_drop, List.length_take]; rfl)) ?_; (with_reducible refine (frisketlaw19_alive.calls  true _ A187.out).mono ?_); rintro e w219 ⟨rfl, hb⟩; refine ⟨_, rfl, ?_⟩; have n0_ := Aside0.mk (blk_below (g := gb274) (o := .cells #[.int .i64 a0_0, .int .i64 a0_1, .int .i64 a0_2] 26 (0, 0)) (by (with_reducible repeat (first | refine bN ?_ _ | refine bD ?_ | refine bA ?_ _)); exact BK274.out) hb); have n1_ := Aside0.mk (blk_below (g := gb275) (o := .cells #[.int .i64 a1_0, .int .i64 a1_1, .int .i64 a1_2, .int .i64 a1_3, .bool a1_4] 28 (0, 0)) (by (with_reducible repeat (first | refine bN ?_ _ | refine bD ?_ | refine bA ?_ _)); exact BK275.out) hb); have n2_ := Aside0.mk (blk_below (g := gb276) (o := .cells #[.int .i64 a2_0, .int .i64 a2_1, .int .i64 a2_2, .int .i64 a2_3, .bool a1_4] 28 (0, 0)) (by (with_reducible repeat (first | refine bN ?_ _ | refine bD ?_ | refine bA ?_ _)); exact BK276.out) hb); have n3_ := Aside0.mk (blk_below (g := gb287) (o := .cells #[.int .i64 t282, .int .i64 t283, .int .i64 t284, .int .i64 t285] 33 (0, 0)) (by (with_reducible repeat (first | refine bN ?_ _ | refine bD ?_ | refine bA ?_ _)); exact BK287.out) hb); have n4_ := Aside0.mk (blk_below (g := gb298) (o := .cells #[.int .i64 t293, .int .i64 t294, .int .i64 t295, .int .i64 t296] 33 (0, 0)) (by (with_reducible repeat (first | refine bN ?_ _ | refine bD ?_ | refine bA ?_ _)); exact BK298.out) hb); have n5_ := Aside0.mk (below_step (by repeat (first | (with_reducible first | exact HB.out | apply below_alloc | apply pw_below_drewN | apply below_drew1 | refine bS ?_ GE274.out | refine bS ?_ GE275.out | refine bS ?_ GE276.out | refine bS ?_ GE287.out | refine bS ?_ GE298.out) | exact HB.out)) hb); clear BK274; clear BK275; clear BK276; clear BK287; clear BK298; clear HB; have BK274 := n0_; have BK275 := n1_; have BK276 := n2_; have BK287 := n3_; have BK298 := n4_; have HB := n5_; clear n0_ n1_ n2_ n3_ n4_ n5_; (try clear hb); (try clear hb2); (try clear hk); (try clear hi)))
         go_ret
         exact ⟨by first | rfl | (simp [errW_none, errW_some] <;> rfl) | (simp [*, errW_none, errW_some] <;> rfl), by repeat (first | (with_reducible first | exact HB.out | apply below_alloc | apply pw_below_drewN | apply below_drew1 | refine bS ?_ GE274.out | refine bS ?_ GE275.out | refine bS ?_ GE276.out | refine bS ?_ GE287.out | refine bS ?_ GE298.out) | exact HB.out)⟩
       ·replace c188 := Bool.eq_false_iff.mpr c188
        subst c188
        have H1 : (some false) = some r := by rw [if_neg (show ¬ (false = true) by decide)] at H; exact H
        clear H
        have H := H1
        clear H1
        exact af_absurd HRT.out H (by repeat (first | exact AF.none | exact AF.false | refine AF.ite ?_ ?_ | refine AF.bind (fun _ => ?_)))
      ·rw [if_neg c186] at H
       have c186b0 : decide ((wrap64 (t282 + t284)) ≤ t293) = false := decide_eq_false c186
       clear c186
       by_cases c220 : (wrap64 (t293 + t295)) ≤ t282
       ·rw [if_pos c220] at H
        have c220b0 : decide ((wrap64 (t293 + t295)) ≤ t282) = true := decide_eq_true c220
        clear c220
        replace H := Option.bind_eq_some_iff.mp H
        obtain ⟨t309, A2210, H⟩ := H
        replace H : (if t309 = true then (if (wrap64 (a2_0 + a2_1)) ≤ a1_0 then (some (true == true)) else (some (true == true))) else (some false)) = some r := H
        have A221 := Aside0.mk A2210
        clear A2210
        by_cases c222 : t309 = true
        ·subst c222
         have H1 : (if (wrap64 (a2_0 + a2_1)) ≤ a1_0 then (some (true == true)) else (some (true == true))) = some r := by rw [if_pos rfl] at H; exact H
         clear H
         have H := H1
         clear H1
         by_cases c223 : (wrap64 (a2_0 + a2_1)) ≤ a1_0
         ·rw [if_pos c223] at H
          have c223b0 : decide ((wrap64 (a2_0 + a2_1)) ≤ a1_0) = true := decide_eq_true c223
          clear c223
          obtain rfl := Option.some.inj H
          have hnb224 := NB275_274.out
          have hnc224 := NB274_275.out
          have hnb225 := NB275_276.out
          have hnc225 := NB276_275.out
          have hnb226 := NB275_287.out
          have hnc226 := NB287_275.out
          have hnb227 := NB275_298.out
          have hnc227 := NB298_275.out
          have hcz228_0 := cI BK275.out 0 rfl
          have hcz228_1 := cI BK275.out 1 rfl
          have hcz228_2 := cI BK275.out 2 rfl
          have hcz228_3 := cI BK275.out 3 rfl
          have hcz228_4 := cI BK275.out 4 rfl
          have hfz228_0 := bF BK275.out 0
          have hfz228_1 := bF BK275.out 1
          have hfz228_2 := bF BK275.out 2
          have hfz228_3 := bF BK275.out 3
          have hfz228_4 := bF BK275.out 4
          have hnb229 := NB276_274.out
          have hnc229 := NB274_276.out
          have hnb230 := NB276_287.out
          have hnc230 := NB287_276.out
          have hnb231 := NB276_298.out
          have hnc231 := NB298_276.out
          have hcz232_0 := cI BK276.out 0 rfl
          have hcz232_1 := cI BK276.out 1 rfl
          have hcz232_2 := cI BK276.out 2 rfl
          have hcz232_3 := cI BK276.out 3 rfl
          have hcz232_4 := cI BK276.out 4 rfl
          have hfz232_0 := bF BK276.out 0
          have hfz232_1 := bF BK276.out 1
          have hfz232_2 := bF BK276.out 2
          have hfz232_3 := bF BK276.out 3
          have hfz232_4 := bF BK276.out 4
          have hnb233 := NB287_274.out
          have hnc233 := NB274_287.out
          have hnb234 := NB287_298.out
          have hnc234 := NB298_287.out
          have hcz235_0 := cI BK287.out 0 rfl
          have hcz235_1 := cI BK287.out 1 rfl
          have hcz235_2 := cI BK287.out 2 rfl
          have hcz235_3 := cI BK287.out 3 rfl
          have hfz235_0 := bF BK287.out 0
          have hfz235_1 := bF BK287.out 1
          have hfz235_2 := bF BK287.out 2
          have hfz235_3 := bF BK287.out 3
          have hnb236 := NB298_274.out
          have hnc236 := NB274_298.out
          have hcz237_0 := cI BK298.out 0 rfl
          have hcz237_1 := cI BK298.out 1 rfl
          have hcz237_2 := cI BK298.out 2 rfl
          have hcz237_3 := cI BK298.out 3 rfl
          have hfz237_0 := bF BK298.out 0
          have hfz237_1 := bF BK298.out 1
          have hfz237_2 := bF BK298.out 2
          have hfz237_3 := bF BK298.out 3
          go_wp2_with (first | ((with_reducible refine gate_callee (f := 13) rfl ?_); refine goesL_ (some 118) rfl rfl Try.func13 (by kernel_rfl) rfl #[] rfl (by (try simp only [List.map_toArray, List.map_cons, List.map_nil]); first | done | rfl | (simp only [List.length_drop, List.length_take]; rfl)) ?_; (with_reducible refine (frisketlaw19_alive.calls  true _ A221.out).mono ?_); rintro e w238 ⟨rfl, hb⟩; refine ⟨_, rfl, ?_⟩; have n0_ := Aside0.mk (blk_below (g := gb274) (o := .cells #[.int .i64 a0_0, .int .i64 a0_1, .int .i64 a0_2] 26 (0, 0)) (by (with_reducible repeat (first | refine bN ?_ _ | refine bD ?_ | refine bA ?_ _)); exact BK274.out) hb); have n1_ := Aside0.mk (blk_below (g := gb275) (o := .cells #[.int .i64 a1_0, .int .i64 a1_1, .int .i64 a1_2, .int .i64 a1_3, .bool a1_4] 28 (0, 0)) (by (with_reducible repeat (first | refine bN ?_ _ | refine bD ?_ | refine bA ?_ _)); exact BK275.out) hb); have n2_ := Aside0.mk (blk_below (g := gb276) (o := .cells #[.int .i64 a2_0, .int .i64 a2_1, .int .i64 a2_2, .int .i64 a2_3, .bool a1_4] 28 (0, 0)) (by (with_reducible repeat (first | refine bN ?_ _ | refine bD ?_ | refine bA ?_ _)); exact BK276.out) hb); have n3_ := Aside0.mk (blk_below (g := gb287) (o := .cells #[.int .i64 t282, .int .i64 t283, .int .i64 t284, .int .i64 t285] 33 (0, 0)) (by (with_reducible repeat (first | refine bN ?_ _ | refine bD ?_ | refine bA ?_ _)); exact BK287.out) hb); have n4_ := Aside0.mk (blk_below (g := gb298) (o := .cells #[.int .i64 t293, .int .i64 t294, .int .i64 t295, .int .i64 t296] 33 (0, 0)) (by (with_reducible repeat (first | refine bN ?_ _ | refine bD ?_ | refine bA ?_ _)); exact BK298.out) hb); have n5_ := Aside0.mk (below_step (by repeat (first | (with_reducible first | exact HB.out | apply below_alloc | apply pw_below_drewN | apply below_drew1 | refine bS ?_ GE274.out | refine bS ?_ GE275.out | refine bS ?_ GE276.out | refine bS ?_ GE287.out | refine bS ?_ GE298.out) | exact HB.out)) hb); clear BK274; clear BK275; clear BK276; clear BK287; clear BK298; clear HB; have BK274 := n0_; have BK275 := n1_; have BK276 := n2_; have BK287 := n3_; have BK298 := n4_; have HB := n5_; clear n0_ n1_ n2_ n3_ n4_ n5_; (try clear hb); (try clear hb2); (try clear hk); (try clear hi)))
          go_ret
          exact ⟨by first | rfl | (simp [errW_none, errW_some] <;> rfl) | (simp [*, errW_none, errW_some] <;> rfl), by repeat (first | (with_reducible first | exact HB.out | apply below_alloc | apply pw_below_drewN | apply below_drew1 | refine bS ?_ GE274.out | refine bS ?_ GE275.out | refine bS ?_ GE276.out | refine bS ?_ GE287.out | refine bS ?_ GE298.out) | exact HB.out)⟩
         ·rw [if_neg c223] at H
          have c223b0 : decide ((wrap64 (a2_0 + a2_1)) ≤ a1_0) = false := decide_eq_false c223
          clear c223
          obtain rfl := Option.some.inj H
          have hnb239 := NB275_274.out
          have hnc239 := NB274_275.out
          have hnb240 := NB275_276.out
          have hnc240 := NB276_275.out
          have hnb241 := NB275_287.out
          have hnc241 := NB287_275.out
          have hnb242 := NB275_298.out
          have hnc242 := NB298_275.out
          have hcz243_0 := cI BK275.out 0 rfl
          have hcz243_1 := cI BK275.out 1 rfl
          have hcz243_2 := cI BK275.out 2 rfl
          have hcz243_3 := cI BK275.out 3 rfl
          have hcz243_4 := cI BK275.out 4 rfl
          have hfz243_0 := bF BK275.out 0
          have hfz243_1 := bF BK275.out 1
          have hfz243_2 := bF BK275.out 2
          have hfz243_3 := bF BK275.out 3
          have hfz243_4 := bF BK275.out 4
          have hnb244 := NB276_274.out
          have hnc244 := NB274_276.out
          have hnb245 := NB276_287.out
          have hnc245 := NB287_276.out
          have hnb246 := NB276_298.out
          have hnc246 := NB298_276.out
          have hcz247_0 := cI BK276.out 0 rfl
          have hcz247_1 := cI BK276.out 1 rfl
          have hcz247_2 := cI BK276.out 2 rfl
          have hcz247_3 := cI BK276.out 3 rfl
          have hcz247_4 := cI BK276.out 4 rfl
          have hfz247_0 := bF BK276.out 0
          have hfz247_1 := bF BK276.out 1
          have hfz247_2 := bF BK276.out 2
          have hfz247_3 := bF BK276.out 3
          have hfz247_4 := bF BK276.out 4
          have hnb248 := NB287_274.out
          have hnc248 := NB274_287.out
          have hnb249 := NB287_298.out
          have hnc249 := NB298_287.out
          have hcz250_0 := cI BK287.out 0 rfl
          have hcz250_1 := cI BK287.out 1 rfl
          have hcz250_2 := cI BK287.out 2 rfl
          have hcz250_3 := cI BK287.out 3 rfl
          have hfz250_0 := bF BK287.out 0
          have hfz250_1 := bF BK287.out 1
          have hfz250_2 := bF BK287.out 2
          have hfz250_3 := bF BK287.out 3
          have hnb251 := NB298_274.out
          have hnc251 := NB274_298.out
          have hcz252_0 := cI BK298.out 0 rfl
          have hcz252_1 := cI BK298.out 1 rfl
          have hcz252_2 := cI BK298.out 2 rfl
          have hcz252_3 := cI BK298.out 3 rfl
          have hfz252_0 := bF BK298.out 0
          have hfz252_1 := bF BK298.out 1
          have hfz252_2 := bF BK298.out 2
          have hfz252_3 := bF BK298.out 3
          go_wp2_with (first | ((with_reducible refine gate_callee (f := 13) rfl ?_); refine goesL_ (some 118) rfl rfl Try.func13 (by kernel_rfl) rfl #[] rfl (by (try simp only [List.map_toArray, List.map_cons, List.map_nil]); first | done | rfl | (simp only [List.length_drop, List.length_take]; rfl)) ?_; (with_reducible refine (frisketlaw19_alive.calls  true _ A221.out).mono ?_); rintro e w253 ⟨rfl, hb⟩; refine ⟨_, rfl, ?_⟩; have n0_ := Aside0.mk (blk_below (g := gb274) (o := .cells #[.int .i64 a0_0, .int .i64 a0_1, .int .i64 a0_2] 26 (0, 0)) (by (with_reducible repeat (first | refine bN ?_ _ | refine bD ?_ | refine bA ?_ _)); exact BK274.out) hb); have n1_ := Aside0.mk (blk_below (g := gb275) (o := .cells #[.int .i64 a1_0, .int .i64 a1_1, .int .i64 a1_2, .int .i64 a1_3, .bool a1_4] 28 (0, 0)) (by (with_reducible repeat (first | refine bN ?_ _ | refine bD ?_ | refine bA ?_ _)); exact BK275.out) hb); have n2_ := Aside0.mk (blk_below (g := gb276) (o := .cells #[.int .i64 a2_0, .int .i64 a2_1, .int .i64 a2_2, .int .i64 a2_3, .bool a1_4] 28 (0, 0)) (by (with_reducible repeat (first | refine bN ?_ _ | refine bD ?_ | refine bA ?_ _)); exact BK276.out) hb); have n3_ := Aside0.mk (blk_below (g := gb287) (o := .cells #[.int .i64 t282, .int .i64 t283, .int .i64 t284, .int .i64 t285] 33 (0, 0)) (by (with_reducible repeat (first | refine bN ?_ _ | refine bD ?_ | refine bA ?_ _)); exact BK287.out) hb); have n4_ := Aside0.mk (blk_below (g := gb298) (o := .cells #[.int .i64 t293, .int .i64 t294, .int .i64 t295, .int .i64 t296] 33 (0, 0)) (by (with_reducible repeat (first | refine bN ?_ _ | refine bD ?_ | refine bA ?_ _)); exact BK298.out) hb); have n5_ := Aside0.mk (below_step (by repeat (first | (with_reducible first | exact HB.out | apply below_alloc | apply pw_below_drewN | apply below_drew1 | refine bS ?_ GE274.out | refine bS ?_ GE275.out | refine bS ?_ GE276.out | refine bS ?_ GE287.out | refine bS ?_ GE298.out) | exact HB.out)) hb); clear BK274; clear BK275; clear BK276; clear BK287; clear BK298; clear HB; have BK274 := n0_; have BK275 := n1_; have BK276 := n2_; have BK287 := n3_; have BK298 := n4_; have HB := n5_; clear n0_ n1_ n2_ n3_ n4_ n5_; (try clear hb); (try clear hb2); (try clear hk); (try clear hi)))
          go_ret
          exact ⟨by first | rfl | (simp [errW_none, errW_some] <;> rfl) | (simp [*, errW_none, errW_some] <;> rfl), by repeat (first | (with_reducible first | exact HB.out | apply below_alloc | apply pw_below_drewN | apply below_drew1 | refine bS ?_ GE274.out | refine bS ?_ GE275.out | refine bS ?_ GE276.out | refine bS ?_ GE287.out | refine bS ?_ GE298.out) | exact HB.out)⟩
        ·replace c222 := Bool.eq_false_iff.mpr c222
         subst c222
         have H1 : (some false) = some r := by rw [if_neg (show ¬ (false = true) by decide)] at H; exact H
         clear H
         have H := H1
         clear H1
         exact af_absurd HRT.out H (by repeat (first | exact AF.none | exact AF.false | refine AF.ite ?_ ?_ | refine AF.bind (fun _ => ?_)))
       ·rw [if_neg c220] at H
        have c220b0 : decide ((wrap64 (t293 + t295)) ≤ t282) = false := decide_eq_false c220
        clear c220
        by_cases c254 : (wrap64 (t283 + t285)) ≤ t294
        ·rw [if_pos c254] at H
         have c254b0 : decide ((wrap64 (t283 + t285)) ≤ t294) = true := decide_eq_true c254
         clear c254
         replace H := Option.bind_eq_some_iff.mp H
         obtain ⟨t310, A2550, H⟩ := H
         replace H : (if t310 = true then (if (wrap64 (a2_0 + a2_1)) ≤ a1_0 then (some (true == true)) else (some (true == true))) else (some false)) = some r := H
         have A255 := Aside0.mk A2550
         clear A2550
         by_cases c256 : t310 = true
         ·subst c256
          have H1 : (if (wrap64 (a2_0 + a2_1)) ≤ a1_0 then (some (true == true)) else (some (true == true))) = some r := by rw [if_pos rfl] at H; exact H
          clear H
          have H := H1
          clear H1
          by_cases c257 : (wrap64 (a2_0 + a2_1)) ≤ a1_0
          ·rw [if_pos c257] at H
           have c257b0 : decide ((wrap64 (a2_0 + a2_1)) ≤ a1_0) = true := decide_eq_true c257
           clear c257
           obtain rfl := Option.some.inj H
           have hnb258 := NB275_274.out
           have hnc258 := NB274_275.out
           have hnb259 := NB275_276.out
           have hnc259 := NB276_275.out
           have hnb260 := NB275_287.out
           have hnc260 := NB287_275.out
           have hnb261 := NB275_298.out
           have hnc261 := NB298_275.out
           have hcz262_0 := cI BK275.out 0 rfl
           have hcz262_1 := cI BK275.out 1 rfl
           have hcz262_2 := cI BK275.out 2 rfl
           have hcz262_3 := cI BK275.out 3 rfl
           have hcz262_4 := cI BK275.out 4 rfl
           have hfz262_0 := bF BK275.out 0
           have hfz262_1 := bF BK275.out 1
           have hfz262_2 := bF BK275.out 2
           have hfz262_3 := bF BK275.out 3
           have hfz262_4 := bF BK275.out 4
           have hnb263 := NB276_274.out
           have hnc263 := NB274_276.out
           have hnb264 := NB276_287.out
           have hnc264 := NB287_276.out
           have hnb265 := NB276_298.out
           have hnc265 := NB298_276.out
           have hcz266_0 := cI BK276.out 0 rfl
           have hcz266_1 := cI BK276.out 1 rfl
           have hcz266_2 := cI BK276.out 2 rfl
           have hcz266_3 := cI BK276.out 3 rfl
           have hcz266_4 := cI BK276.out 4 rfl
           have hfz266_0 := bF BK276.out 0
           have hfz266_1 := bF BK276.out 1
           have hfz266_2 := bF BK276.out 2
           have hfz266_3 := bF BK276.out 3
           have hfz266_4 := bF BK276.out 4
           have hnb267 := NB287_274.out
           have hnc267 := NB274_287.out
           have hnb268 := NB287_298.out
           have hnc268 := NB298_287.out
           have hcz269_0 := cI BK287.out 0 rfl
           have hcz269_1 := cI BK287.out 1 rfl
           have hcz269_2 := cI BK287.out 2 rfl
           have hcz269_3 := cI BK287.out 3 rfl
           have hfz269_0 := bF BK287.out 0
           have hfz269_1 := bF BK287.out 1
           have hfz269_2 := bF BK287.out 2
           have hfz269_3 := bF BK287.out 3
           have hnb270 := NB298_274.out
           have hnc270 := NB274_298.out
           have hcz271_0 := cI BK298.out 0 rfl
           have hcz271_1 := cI BK298.out 1 rfl
           have hcz271_2 := cI BK298.out 2 rfl
           have hcz271_3 := cI BK298.out 3 rfl
           have hfz271_0 := bF BK298.out 0
           have hfz271_1 := bF BK298.out 1
           have hfz271_2 := bF BK298.out 2
           have hfz271_3 := bF BK298.out 3
           go_wp2_with (first | ((with_reducible refine gate_callee (f := 13) rfl ?_); refine goesL_ (some 118) rfl rfl Try.func13 (by kernel_rfl) rfl #[] rfl (by (try simp only [List.map_toArray, List.map_cons, List.map_nil]); first | done | rfl | (simp only [List.length_drop, List.length_take]; rfl)) ?_; (with_reducible refine (frisketlaw19_alive.calls  true _ A255.out).mono ?_); rintro e w272 ⟨rfl, hb⟩; refine ⟨_, rfl, ?_⟩; have n0_ := Aside0.mk (blk_below (g := gb274) (o := .cells #[.int .i64 a0_0, .int .i64 a0_1, .int .i64 a0_2] 26 (0, 0)) (by (with_reducible repeat (first | refine bN ?_ _ | refine bD ?_ | refine bA ?_ _)); exact BK274.out) hb); have n1_ := Aside0.mk (blk_below (g := gb275) (o := .cells #[.int .i64 a1_0, .int .i64 a1_1, .int .i64 a1_2, .int .i64 a1_3, .bool a1_4] 28 (0, 0)) (by (with_reducible repeat (first | refine bN ?_ _ | refine bD ?_ | refine bA ?_ _)); exact BK275.out) hb); have n2_ := Aside0.mk (blk_below (g := gb276) (o := .cells #[.int .i64 a2_0, .int .i64 a2_1, .int .i64 a2_2, .int .i64 a2_3, .bool a1_4] 28 (0, 0)) (by (with_reducible repeat (first | refine bN ?_ _ | refine bD ?_ | refine bA ?_ _)); exact BK276.out) hb); have n3_ := Aside0.mk (blk_below (g := gb287) (o := .cells #[.int .i64 t282, .int .i64 t283, .int .i64 t284, .int .i64 t285] 33 (0, 0)) (by (with_reducible repeat (first | refine bN ?_ _ | refine bD ?_ | refine bA ?_ _)); exact BK287.out) hb); have n4_ := Aside0.mk (blk_below (g := gb298) (o := .cells #[.int .i64 t293, .int .i64 t294, .int .i64 t295, .int .i64 t296] 33 (0, 0)) (by (with_reducible repeat (first | refine bN ?_ _ | refine bD ?_ | refine bA ?_ _)); exact BK298.out) hb); have n5_ := Aside0.mk (below_step (by repeat (first | (with_reducible first | exact HB.out | apply below_alloc | apply pw_below_drewN | apply below_drew1 | refine bS ?_ GE274.out | refine bS ?_ GE275.out | refine bS ?_ GE276.out | refine bS ?_ GE287.out | refine bS ?_ GE298.out) | exact HB.out)) hb); clear BK274; clear BK275; clear BK276; clear BK287; clear BK298; clear HB; have BK274 := n0_; have BK275 := n1_; have BK276 := n2_; have BK287 := n3_; have BK298 := n4_; have HB := n5_; clear n0_ n1_ n2_ n3_ n4_ n5_; (try clear hb); (try clear hb2); (try clear hk); (try clear hi)))
           go_ret
           exact ⟨by first | rfl | (simp [errW_none, errW_some] <;> rfl) | (simp [*, errW_none, errW_some] <;> rfl), by repeat (first | (with_reducible first | exact HB.out | apply below_alloc | apply pw_below_drewN | apply below_drew1 | refine bS ?_ GE274.out | refine bS ?_ GE275.out | refine bS ?_ GE276.out | refine bS ?_ GE287.out | refine bS ?_ GE298.out) | exact HB.out)⟩
          ·rw [if_neg c257] at H
           have c257b0 : decide ((wrap64 (a2_0 + a2_1)) ≤ a1_0) = false := decide_eq_false c257
           clear c257
           obtain rfl := Option.some.inj H
           have hnb273 := NB275_274.out
           have hnc273 := NB274_275.out
           have hnb274 := NB275_276.out
           have hnc274 := NB276_275.out
           have hnb275 := NB275_287.out
           have hnc275 := NB287_275.out
           have hnb276 := NB275_298.out
           have hnc276 := NB298_275.out
           have hcz277_0 := cI BK275.out 0 rfl
           have hcz277_1 := cI BK275.out 1 rfl
           have hcz277_2 := cI BK275.out 2 rfl
           have hcz277_3 := cI BK275.out 3 rfl
           have hcz277_4 := cI BK275.out 4 rfl
           have hfz277_0 := bF BK275.out 0
           have hfz277_1 := bF BK275.out 1
           have hfz277_2 := bF BK275.out 2
           have hfz277_3 := bF BK275.out 3
           have hfz277_4 := bF BK275.out 4
           have hnb278 := NB276_274.out
           have hnc278 := NB274_276.out
           have hnb279 := NB276_287.out
           have hnc279 := NB287_276.out
           have hnb280 := NB276_298.out
           have hnc280 := NB298_276.out
           have hcz281_0 := cI BK276.out 0 rfl
           have hcz281_1 := cI BK276.out 1 rfl
           have hcz281_2 := cI BK276.out 2 rfl
           have hcz281_3 := cI BK276.out 3 rfl
           have hcz281_4 := cI BK276.out 4 rfl
           have hfz281_0 := bF BK276.out 0
           have hfz281_1 := bF BK276.out 1
           have hfz281_2 := bF BK276.out 2
           have hfz281_3 := bF BK276.out 3
           have hfz281_4 := bF BK276.out 4
           have hnb282 := NB287_274.out
           have hnc282 := NB274_287.out
           have hnb283 := NB287_298.out
           have hnc283 := NB298_287.out
           have hcz284_0 := cI BK287.out 0 rfl
           have hcz284_1 := cI BK287.out 1 rfl
           have hcz284_2 := cI BK287.out 2 rfl
           have hcz284_3 := cI BK287.out 3 rfl
           have hfz284_0 := bF BK287.out 0
           have hfz284_1 := bF BK287.out 1
           have hfz284_2 := bF BK287.out 2
           have hfz284_3 := bF BK287.out 3
           have hnb285 := NB298_274.out
           have hnc285 := NB274_298.out
           have hcz286_0 := cI BK298.out 0 rfl
           have hcz286_1 := cI BK298.out 1 rfl
           have hcz286_2 := cI BK298.out 2 rfl
           have hcz286_3 := cI BK298.out 3 rfl
           have hfz286_0 := bF BK298.out 0
           have hfz286_1 := bF BK298.out 1
           have hfz286_2 := bF BK298.out 2
           have hfz286_3 := bF BK298.out 3
           go_wp2_with (first | ((with_reducible refine gate_callee (f := 13) rfl ?_); refine goesL_ (some 118) rfl rfl Try.func13 (by kernel_rfl) rfl #[] rfl (by (try simp only [List.map_toArray, List.map_cons, List.map_nil]); first | done | rfl | (simp only [List.length_drop, List.length_take]; rfl)) ?_; (with_reducible refine (frisketlaw19_alive.calls  true _ A255.out).mono ?_); rintro e w287 ⟨rfl, hb⟩; refine ⟨_, rfl, ?_⟩; have n0_ := Aside0.mk (blk_below (g := gb274) (o := .cells #[.int .i64 a0_0, .int .i64 a0_1, .int .i64 a0_2] 26 (0, 0)) (by (with_reducible repeat (first | refine bN ?_ _ | refine bD ?_ | refine bA ?_ _)); exact BK274.out) hb); have n1_ := Aside0.mk (blk_below (g := gb275) (o := .cells #[.int .i64 a1_0, .int .i64 a1_1, .int .i64 a1_2, .int .i64 a1_3, .bool a1_4] 28 (0, 0)) (by (with_reducible repeat (first | refine bN ?_ _ | refine bD ?_ | refine bA ?_ _)); exact BK275.out) hb); have n2_ := Aside0.mk (blk_below (g := gb276) (o := .cells #[.int .i64 a2_0, .int .i64 a2_1, .int .i64 a2_2, .int .i64 a2_3, .bool a1_4] 28 (0, 0)) (by (with_reducible repeat (first | refine bN ?_ _ | refine bD ?_ | refine bA ?_ _)); exact BK276.out) hb); have n3_ := Aside0.mk (blk_below (g := gb287) (o := .cells #[.int .i64 t282, .int .i64 t283, .int .i64 t284, .int .i64 t285] 33 (0, 0)) (by (with_reducible repeat (first | refine bN ?_ _ | refine bD ?_ | refine bA ?_ _)); exact BK287.out) hb); have n4_ := Aside0.mk (blk_below (g := gb298) (o := .cells #[.int .i64 t293, .int .i64 t294, .int .i64 t295, .int .i64 t296] 33 (0, 0)) (by (with_reducible repeat (first | refine bN ?_ _ | refine bD ?_ | refine bA ?_ _)); exact BK298.out) hb); have n5_ := Aside0.mk (below_step (by repeat (first | (with_reducible first | exact HB.out | apply below_alloc | apply pw_below_drewN | apply below_drew1 | refine bS ?_ GE274.out | refine bS ?_ GE275.out | refine bS ?_ GE276.out | refine bS ?_ GE287.out | refine bS ?_ GE298.out) | exact HB.out)) hb); clear BK274; clear BK275; clear BK276; clear BK287; clear BK298; clear HB; have BK274 := n0_; have BK275 := n1_; have BK276 := n2_; have BK287 := n3_; have BK298 := n4_; have HB := n5_; clear n0_ n1_ n2_ n3_ n4_ n5_; (try clear hb); (try clear hb2); (try clear hk); (try clear hi)))
           go_ret
           exact ⟨by first | rfl | (simp [errW_none, errW_some] <;> rfl) | (simp [*, errW_none, errW_some] <;> rfl), by repeat (first | (with_reducible first | exact HB.out | apply below_alloc | apply pw_below_drewN | apply below_drew1 | refine bS ?_ GE274.out | refine bS ?_ GE275.out | refine bS ?_ GE276.out | refine bS ?_ GE287.out | refine bS ?_ GE298.out) | exact HB.out)⟩
         ·replace c256 := Bool.eq_false_iff.mpr c256
          subst c256
          have H1 : (some false) = some r := by rw [if_neg (show ¬ (false = true) by decide)] at H; exact H
          clear H
          have H := H1
          clear H1
          exact af_absurd HRT.out H (by repeat (first | exact AF.none | exact AF.false | refine AF.ite ?_ ?_ | refine AF.bind (fun _ => ?_)))
        ·rw [if_neg c254] at H
         have c254b0 : decide ((wrap64 (t283 + t285)) ≤ t294) = false := decide_eq_false c254
         clear c254
         replace H := Option.bind_eq_some_iff.mp H
         obtain ⟨t311, A2880, H⟩ := H
         replace H : (if t311 = true then (if (wrap64 (a2_0 + a2_1)) ≤ a1_0 then (some ((decide ((wrap64 (t294 + t296)) ≤ t283)) == true)) else (some ((decide ((wrap64 (t294 + t296)) ≤ t283)) == true))) else (some false)) = some r := H
         have A288 := Aside0.mk A2880
         clear A2880
         by_cases c289 : t311 = true
         ·subst c289
          have H1 : (if (wrap64 (a2_0 + a2_1)) ≤ a1_0 then (some ((decide ((wrap64 (t294 + t296)) ≤ t283)) == true)) else (some ((decide ((wrap64 (t294 + t296)) ≤ t283)) == true))) = some r := by rw [if_pos rfl] at H; exact H
          clear H
          have H := H1
          clear H1
          by_cases c290 : (wrap64 (a2_0 + a2_1)) ≤ a1_0
          ·rw [if_pos c290] at H
           have c290b0 : decide ((wrap64 (a2_0 + a2_1)) ≤ a1_0) = true := decide_eq_true c290
           clear c290
           obtain rfl := Option.some.inj H
           have hnb291 := NB275_274.out
           have hnc291 := NB274_275.out
           have hnb292 := NB275_276.out
           have hnc292 := NB276_275.out
           have hnb293 := NB275_287.out
           have hnc293 := NB287_275.out
           have hnb294 := NB275_298.out
           have hnc294 := NB298_275.out
           have hcz295_0 := cI BK275.out 0 rfl
           have hcz295_1 := cI BK275.out 1 rfl
           have hcz295_2 := cI BK275.out 2 rfl
           have hcz295_3 := cI BK275.out 3 rfl
           have hcz295_4 := cI BK275.out 4 rfl
           have hfz295_0 := bF BK275.out 0
           have hfz295_1 := bF BK275.out 1
           have hfz295_2 := bF BK275.out 2
           have hfz295_3 := bF BK275.out 3
           have hfz295_4 := bF BK275.out 4
           have hnb296 := NB276_274.out
           have hnc296 := NB274_276.out
           have hnb297 := NB276_287.out
           have hnc297 := NB287_276.out
           have hnb298 := NB276_298.out
           have hnc298 := NB298_276.out
           have hcz299_0 := cI BK276.out 0 rfl
           have hcz299_1 := cI BK276.out 1 rfl
           have hcz299_2 := cI BK276.out 2 rfl
           have hcz299_3 := cI BK276.out 3 rfl
           have hcz299_4 := cI BK276.out 4 rfl
           have hfz299_0 := bF BK276.out 0
           have hfz299_1 := bF BK276.out 1
           have hfz299_2 := bF BK276.out 2
           have hfz299_3 := bF BK276.out 3
           have hfz299_4 := bF BK276.out 4
           have hnb300 := NB287_274.out
           have hnc300 := NB274_287.out
           have hnb301 := NB287_298.out
           have hnc301 := NB298_287.out
           have hcz302_0 := cI BK287.out 0 rfl
           have hcz302_1 := cI BK287.out 1 rfl
           have hcz302_2 := cI BK287.out 2 rfl
           have hcz302_3 := cI BK287.out 3 rfl
           have hfz302_0 := bF BK287.out 0
           have hfz302_1 := bF BK287.out 1
           have hfz302_2 := bF BK287.out 2
           have hfz302_3 := bF BK287.out 3
           have hnb303 := NB298_274.out
           have hnc303 := NB274_298.out
           have hcz304_0 := cI BK298.out 0 rfl
           have hcz304_1 := cI BK298.out 1 rfl
           have hcz304_2 := cI BK298.out 2 rfl
           have hcz304_3 := cI BK298.out 3 rfl
           have hfz304_0 := bF BK298.out 0
           have hfz304_1 := bF BK298.out 1
           have hfz304_2 := bF BK298.out 2
           have hfz304_3 := bF BK298.out 3
           go_wp2_with (first | ((with_reducible refine gate_callee (f := 13) rfl ?_); refine goesL_ (some 118) rfl rfl Try.func13 (by kernel_rfl) rfl #[] rfl (by (try simp only [List.map_toArray, List.map_cons, List.map_nil]); first | done | rfl | (simp only [List.length_drop, List.length_take]; rfl)) ?_; (with_reducible refine (frisketlaw19_alive.calls  true _ A288.out).mono ?_); rintro e w305 ⟨rfl, hb⟩; refine ⟨_, rfl, ?_⟩; have n0_ := Aside0.mk (blk_below (g := gb274) (o := .cells #[.int .i64 a0_0, .int .i64 a0_1, .int .i64 a0_2] 26 (0, 0)) (by (with_reducible repeat (first | refine bN ?_ _ | refine bD ?_ | refine bA ?_ _)); exact BK274.out) hb); have n1_ := Aside0.mk (blk_below (g := gb275) (o := .cells #[.int .i64 a1_0, .int .i64 a1_1, .int .i64 a1_2, .int .i64 a1_3, .bool a1_4] 28 (0, 0)) (by (with_reducible repeat (first | refine bN ?_ _ | refine bD ?_ | refine bA ?_ _)); exact BK275.out) hb); have n2_ := Aside0.mk (blk_below (g := gb276) (o := .cells #[.int .i64 a2_0, .int .i64 a2_1, .int .i64 a2_2, .int .i64 a2_3, .bool a1_4] 28 (0, 0)) (by (with_reducible repeat (first | refine bN ?_ _ | refine bD ?_ | refine bA ?_ _)); exact BK276.out) hb); have n3_ := Aside0.mk (blk_below (g := gb287) (o := .cells #[.int .i64 t282, .int .i64 t283, .int .i64 t284, .int .i64 t285] 33 (0, 0)) (by (with_reducible repeat (first | refine bN ?_ _ | refine bD ?_ | refine bA ?_ _)); exact BK287.out) hb); have n4_ := Aside0.mk (blk_below (g := gb298) (o := .cells #[.int .i64 t293, .int .i64 t294, .int .i64 t295, .int .i64 t296] 33 (0, 0)) (by (with_reducible repeat (first | refine bN ?_ _ | refine bD ?_ | refine bA ?_ _)); exact BK298.out) hb); have n5_ := Aside0.mk (below_step (by repeat (first | (with_reducible first | exact HB.out | apply below_alloc | apply pw_below_drewN | apply below_drew1 | refine bS ?_ GE274.out | refine bS ?_ GE275.out | refine bS ?_ GE276.out | refine bS ?_ GE287.out | refine bS ?_ GE298.out) | exact HB.out)) hb); clear BK274; clear BK275; clear BK276; clear BK287; clear BK298; clear HB; have BK274 := n0_; have BK275 := n1_; have BK276 := n2_; have BK287 := n3_; have BK298 := n4_; have HB := n5_; clear n0_ n1_ n2_ n3_ n4_ n5_; (try clear hb); (try clear hb2); (try clear hk); (try clear hi)))
           go_ret
           exact ⟨by first | rfl | (simp [errW_none, errW_some] <;> rfl) | (simp [*, errW_none, errW_some] <;> rfl), by repeat (first | (with_reducible first | exact HB.out | apply below_alloc | apply pw_below_drewN | apply below_drew1 | refine bS ?_ GE274.out | refine bS ?_ GE275.out | refine bS ?_ GE276.out | refine bS ?_ GE287.out | refine bS ?_ GE298.out) | exact HB.out)⟩
          ·rw [if_neg c290] at H
           have c290b0 : decide ((wrap64 (a2_0 + a2_1)) ≤ a1_0) = false := decide_eq_false c290
           clear c290
           obtain rfl := Option.some.inj H
           have hnb306 := NB275_274.out
           have hnc306 := NB274_275.out
           have hnb307 := NB275_276.out
           have hnc307 := NB276_275.out
           have hnb308 := NB275_287.out
           have hnc308 := NB287_275.out
           have hnb309 := NB275_298.out
           have hnc309 := NB298_275.out
           have hcz310_0 := cI BK275.out 0 rfl
           have hcz310_1 := cI BK275.out 1 rfl
           have hcz310_2 := cI BK275.out 2 rfl
           have hcz310_3 := cI BK275.out 3 rfl
           have hcz310_4 := cI BK275.out 4 rfl
           have hfz310_0 := bF BK275.out 0
           have hfz310_1 := bF BK275.out 1
           have hfz310_2 := bF BK275.out 2
           have hfz310_3 := bF BK275.out 3
           have hfz310_4 := bF BK275.out 4
           have hnb311 := NB276_274.out
           have hnc311 := NB274_276.out
           have hnb312 := NB276_287.out
           have hnc312 := NB287_276.out
           have hnb313 := NB276_298.out
           have hnc313 := NB298_276.out
           have hcz314_0 := cI BK276.out 0 rfl
           have hcz314_1 := cI BK276.out 1 rfl
           have hcz314_2 := cI BK276.out 2 rfl
           have hcz314_3 := cI BK276.out 3 rfl
           have hcz314_4 := cI BK276.out 4 rfl
           have hfz314_0 := bF BK276.out 0
           have hfz314_1 := bF BK276.out 1
           have hfz314_2 := bF BK276.out 2
           have hfz314_3 := bF BK276.out 3
           have hfz314_4 := bF BK276.out 4
           have hnb315 := NB287_274.out
           have hnc315 := NB274_287.out
           have hnb316 := NB287_298.out
           have hnc316 := NB298_287.out
           have hcz317_0 := cI BK287.out 0 rfl
           have hcz317_1 := cI BK287.out 1 rfl
           have hcz317_2 := cI BK287.out 2 rfl
           have hcz317_3 := cI BK287.out 3 rfl
           have hfz317_0 := bF BK287.out 0
           have hfz317_1 := bF BK287.out 1
           have hfz317_2 := bF BK287.out 2
           have hfz317_3 := bF BK287.out 3
           have hnb318 := NB298_274.out
           have hnc318 := NB274_298.out
           have hcz319_0 := cI BK298.out 0 rfl
           have hcz319_1 := cI BK298.out 1 rfl
           have hcz319_2 := cI BK298.out 2 rfl
           have hcz319_3 := cI BK298.out 3 rfl
           have hfz319_0 := bF BK298.out 0
           have hfz319_1 := bF BK298.out 1
           have hfz319_2 := bF BK298.out 2
           have hfz319_3 := bF BK298.out 3
           go_wp2_with (first | ((with_reducible refine gate_callee (f := 13) rfl ?_); refine goesL_ (some 118) rfl rfl Try.func13 (by kernel_rfl) rfl #[] rfl (by (try simp only [List.map_toArray, List.map_cons, List.map_nil]); first | done | rfl | (simp only [List.length_drop, List.length_take]; rfl)) ?_; (with_reducible refine (frisketlaw19_alive.calls  true _ A288.out).mono ?_); rintro e w320 ⟨rfl, hb⟩; refine ⟨_, rfl, ?_⟩; have n0_ := Aside0.mk (blk_below (g := gb274) (o := .cells #[.int .i64 a0_0, .int .i64 a0_1, .int .i64 a0_2] 26 (0, 0)) (by (with_reducible repeat (first | refine bN ?_ _ | refine bD ?_ | refine bA ?_ _)); exact BK274.out) hb); have n1_ := Aside0.mk (blk_below (g := gb275) (o := .cells #[.int .i64 a1_0, .int .i64 a1_1, .int .i64 a1_2, .int .i64 a1_3, .bool a1_4] 28 (0, 0)) (by (with_reducible repeat (first | refine bN ?_ _ | refine bD ?_ | refine bA ?_ _)); exact BK275.out) hb); have n2_ := Aside0.mk (blk_below (g := gb276) (o := .cells #[.int .i64 a2_0, .int .i64 a2_1, .int .i64 a2_2, .int .i64 a2_3, .bool a1_4] 28 (0, 0)) (by (with_reducible repeat (first | refine bN ?_ _ | refine bD ?_ | refine bA ?_ _)); exact BK276.out) hb); have n3_ := Aside0.mk (blk_below (g := gb287) (o := .cells #[.int .i64 t282, .int .i64 t283, .int .i64 t284, .int .i64 t285] 33 (0, 0)) (by (with_reducible repeat (first | refine bN ?_ _ | refine bD ?_ | refine bA ?_ _)); exact BK287.out) hb); have n4_ := Aside0.mk (blk_below (g := gb298) (o := .cells #[.int .i64 t293, .int .i64 t294, .int .i64 t295, .int .i64 t296] 33 (0, 0)) (by (with_reducible repeat (first | refine bN ?_ _ | refine bD ?_ | refine bA ?_ _)); exact BK298.out) hb); have n5_ := Aside0.mk (below_step (by repeat (first | (with_reducible first | exact HB.out | apply below_alloc | apply pw_below_drewN | apply below_drew1 | refine bS ?_ GE274.out | refine bS ?_ GE275.out | refine bS ?_ GE276.out | refine bS ?_ GE287.out | refine bS ?_ GE298.out) | exact HB.out)) hb); clear BK274; clear BK275; clear BK276; clear BK287; clear BK298; clear HB; have BK274 := n0_; have BK275 := n1_; have BK276 := n2_; have BK287 := n3_; have BK298 := n4_; have HB := n5_; clear n0_ n1_ n2_ n3_ n4_ n5_; (try clear hb); (try clear hb2); (try clear hk); (try clear hi)))
           go_ret
           exact ⟨by first | rfl | (simp [errW_none, errW_some] <;> rfl) | (simp [*, errW_none, errW_some] <;> rfl), by repeat (first | (with_reducible first | exact HB.out | apply below_alloc | apply pw_below_drewN | apply below_drew1 | refine bS ?_ GE274.out | refine bS ?_ GE275.out | refine bS ?_ GE276.out | refine bS ?_ GE287.out | refine bS ?_ GE298.out) | exact HB.out)⟩
         ·replace c289 := Bool.eq_false_iff.mpr c289
          subst c289
          have H1 : (some false) = some r := by rw [if_neg (show ¬ (false = true) by decide)] at H; exact H
          clear H
          have H := H1
          clear H1
          exact af_absurd HRT.out H (by repeat (first | exact AF.none | exact AF.false | refine AF.ite ?_ ?_ | refine AF.bind (fun _ => ?_)))
     ·rw [if_neg c185] at H
      have c185b0 : decide ((wrap64 (a1_2 + a1_3)) ≤ a2_2) = false := decide_eq_false c185
      clear c185
      by_cases c321 : (wrap64 (t282 + t284)) ≤ t293
      ·rw [if_pos c321] at H
       have c321b0 : decide ((wrap64 (t282 + t284)) ≤ t293) = true := decide_eq_true c321
       clear c321
       replace H := Option.bind_eq_some_iff.mp H
       obtain ⟨t312, A3220, H⟩ := H
       replace H : (if t312 = true then (if (wrap64 (a2_0 + a2_1)) ≤ a1_0 then (some (true == true)) else (some (true == (decide ((wrap64 (a2_2 + a2_3)) ≤ a1_2))))) else (some false)) = some r := H
       have A322 := Aside0.mk A3220
       clear A3220
       by_cases c323 : t312 = true
       ·subst c323
        have H1 : (if (wrap64 (a2_0 + a2_1)) ≤ a1_0 then (some (true == true)) else (some (true == (decide ((wrap64 (a2_2 + a2_3)) ≤ a1_2))))) = some r := by rw [if_pos rfl] at H; exact H
        clear H
        have H := H1
        clear H1
        by_cases c324 : (wrap64 (a2_0 + a2_1)) ≤ a1_0
        ·rw [if_pos c324] at H
         have c324b0 : decide ((wrap64 (a2_0 + a2_1)) ≤ a1_0) = true := decide_eq_true c324
         clear c324
         obtain rfl := Option.some.inj H
         have hnb325 := NB275_274.out
         have hnc325 := NB274_275.out
         have hnb326 := NB275_276.out
         have hnc326 := NB276_275.out
         have hnb327 := NB275_287.out
         have hnc327 := NB287_275.out
         have hnb328 := NB275_298.out
         have hnc328 := NB298_275.out
         have hcz329_0 := cI BK275.out 0 rfl
         have hcz329_1 := cI BK275.out 1 rfl
         have hcz329_2 := cI BK275.out 2 rfl
         have hcz329_3 := cI BK275.out 3 rfl
         have hcz329_4 := cI BK275.out 4 rfl
         have hfz329_0 := bF BK275.out 0
         have hfz329_1 := bF BK275.out 1
         have hfz329_2 := bF BK275.out 2
         have hfz329_3 := bF BK275.out 3
         have hfz329_4 := bF BK275.out 4
         have hnb330 := NB276_274.out
         have hnc330 := NB274_276.out
         have hnb331 := NB276_287.out
         have hnc331 := NB287_276.out
         have hnb332 := NB276_298.out
         have hnc332 := NB298_276.out
         have hcz333_0 := cI BK276.out 0 rfl
         have hcz333_1 := cI BK276.out 1 rfl
         have hcz333_2 := cI BK276.out 2 rfl
         have hcz333_3 := cI BK276.out 3 rfl
         have hcz333_4 := cI BK276.out 4 rfl
         have hfz333_0 := bF BK276.out 0
         have hfz333_1 := bF BK276.out 1
         have hfz333_2 := bF BK276.out 2
         have hfz333_3 := bF BK276.out 3
         have hfz333_4 := bF BK276.out 4
         have hnb334 := NB287_274.out
         have hnc334 := NB274_287.out
         have hnb335 := NB287_298.out
         have hnc335 := NB298_287.out
         have hcz336_0 := cI BK287.out 0 rfl
         have hcz336_1 := cI BK287.out 1 rfl
         have hcz336_2 := cI BK287.out 2 rfl
         have hcz336_3 := cI BK287.out 3 rfl
         have hfz336_0 := bF BK287.out 0
         have hfz336_1 := bF BK287.out 1
         have hfz336_2 := bF BK287.out 2
         have hfz336_3 := bF BK287.out 3
         have hnb337 := NB298_274.out
         have hnc337 := NB274_298.out
         have hcz338_0 := cI BK298.out 0 rfl
         have hcz338_1 := cI BK298.out 1 rfl
         have hcz338_2 := cI BK298.out 2 rfl
         have hcz338_3 := cI BK298.out 3 rfl
         have hfz338_0 := bF BK298.out 0
         have hfz338_1 := bF BK298.out 1
         have hfz338_2 := bF BK298.out 2
         have hfz338_3 := bF BK298.out 3
         go_wp2_with (first | ((with_reducible refine gate_callee (f := 13) rfl ?_); refine goesL_ (some 118) rfl rfl Try.func13 (by kernel_rfl) rfl #[] rfl (by (try simp only [List.map_toArray, List.map_cons, List.map_nil]); first | done | rfl | (simp only [List.length_drop, List.length_take]; rfl)) ?_; (with_reducible refine (frisketlaw19_alive.calls  true _ A322.out).mono ?_); rintro e w339 ⟨rfl, hb⟩; refine ⟨_, rfl, ?_⟩; have n0_ := Aside0.mk (blk_below (g := gb274) (o := .cells #[.int .i64 a0_0, .int .i64 a0_1, .int .i64 a0_2] 26 (0, 0)) (by (with_reducible repeat (first | refine bN ?_ _ | refine bD ?_ | refine bA ?_ _)); exact BK274.out) hb); have n1_ := Aside0.mk (blk_below (g := gb275) (o := .cells #[.int .i64 a1_0, .int .i64 a1_1, .int .i64 a1_2, .int .i64 a1_3, .bool a1_4] 28 (0, 0)) (by (with_reducible repeat (first | refine bN ?_ _ | refine bD ?_ | refine bA ?_ _)); exact BK275.out) hb); have n2_ := Aside0.mk (blk_below (g := gb276) (o := .cells #[.int .i64 a2_0, .int .i64 a2_1, .int .i64 a2_2, .int .i64 a2_3, .bool a1_4] 28 (0, 0)) (by (with_reducible repeat (first | refine bN ?_ _ | refine bD ?_ | refine bA ?_ _)); exact BK276.out) hb); have n3_ := Aside0.mk (blk_below (g := gb287) (o := .cells #[.int .i64 t282, .int .i64 t283, .int .i64 t284, .int .i64 t285] 33 (0, 0)) (by (with_reducible repeat (first | refine bN ?_ _ | refine bD ?_ | refine bA ?_ _)); exact BK287.out) hb); have n4_ := Aside0.mk (blk_below (g := gb298) (o := .cells #[.int .i64 t293, .int .i64 t294, .int .i64 t295, .int .i64 t296] 33 (0, 0)) (by (with_reducible repeat (first | refine bN ?_ _ | refine bD ?_ | refine bA ?_ _)); exact BK298.out) hb); have n5_ := Aside0.mk (below_step (by repeat (first | (with_reducible first | exact HB.out | apply below_alloc | apply pw_below_drewN | apply below_drew1 | refine bS ?_ GE274.out | refine bS ?_ GE275.out | refine bS ?_ GE276.out | refine bS ?_ GE287.out | refine bS ?_ GE298.out) | exact HB.out)) hb); clear BK274; clear BK275; clear BK276; clear BK287; clear BK298; clear HB; have BK274 := n0_; have BK275 := n1_; have BK276 := n2_; have BK287 := n3_; have BK298 := n4_; have HB := n5_; clear n0_ n1_ n2_ n3_ n4_ n5_; (try clear hb); (try clear hb2); (try clear hk); (try clear hi)))
         go_ret
         exact ⟨by first | rfl | (simp [errW_none, errW_some] <;> rfl) | (simp [*, errW_none, errW_some] <;> rfl), by repeat (first | (with_reducible first | exact HB.out | apply below_alloc | apply pw_below_drewN | apply below_drew1 | refine bS ?_ GE274.out | refine bS ?_ GE275.out | refine bS ?_ GE276.out | refine bS ?_ GE287.out | refine bS ?_ GE298.out) | exact HB.out)⟩
        ·rw [if_neg c324] at H
         have c324b0 : decide ((wrap64 (a2_0 + a2_1)) ≤ a1_0) = false := decide_eq_false c324
         clear c324
         obtain rfl := Option.some.inj H
         have hnb340 := NB275_274.out
         have hnc340 := NB274_275.out
         have hnb341 := NB275_276.out
         have hnc341 := NB276_275.out
         have hnb342 := NB275_287.out
         have hnc342 := NB287_275.out
         have hnb343 := NB275_298.out
         have hnc343 := NB298_275.out
         have hcz344_0 := cI BK275.out 0 rfl
         have hcz344_1 := cI BK275.out 1 rfl
         have hcz344_2 := cI BK275.out 2 rfl
         have hcz344_3 := cI BK275.out 3 rfl
         have hcz344_4 := cI BK275.out 4 rfl
         have hfz344_0 := bF BK275.out 0
         have hfz344_1 := bF BK275.out 1
         have hfz344_2 := bF BK275.out 2
         have hfz344_3 := bF BK275.out 3
         have hfz344_4 := bF BK275.out 4
         have hnb345 := NB276_274.out
         have hnc345 := NB274_276.out
         have hnb346 := NB276_287.out
         have hnc346 := NB287_276.out
         have hnb347 := NB276_298.out
         have hnc347 := NB298_276.out
         have hcz348_0 := cI BK276.out 0 rfl
         have hcz348_1 := cI BK276.out 1 rfl
         have hcz348_2 := cI BK276.out 2 rfl
         have hcz348_3 := cI BK276.out 3 rfl
         have hcz348_4 := cI BK276.out 4 rfl
         have hfz348_0 := bF BK276.out 0
         have hfz348_1 := bF BK276.out 1
         have hfz348_2 := bF BK276.out 2
         have hfz348_3 := bF BK276.out 3
         have hfz348_4 := bF BK276.out 4
         have hnb349 := NB287_274.out
         have hnc349 := NB274_287.out
         have hnb350 := NB287_298.out
         have hnc350 := NB298_287.out
         have hcz351_0 := cI BK287.out 0 rfl
         have hcz351_1 := cI BK287.out 1 rfl
         have hcz351_2 := cI BK287.out 2 rfl
         have hcz351_3 := cI BK287.out 3 rfl
         have hfz351_0 := bF BK287.out 0
         have hfz351_1 := bF BK287.out 1
         have hfz351_2 := bF BK287.out 2
         have hfz351_3 := bF BK287.out 3
         have hnb352 := NB298_274.out
         have hnc352 := NB274_298.out
         have hcz353_0 := cI BK298.out 0 rfl
         have hcz353_1 := cI BK298.out 1 rfl
         have hcz353_2 := cI BK298.out 2 rfl
         have hcz353_3 := cI BK298.out 3 rfl
         have hfz353_0 := bF BK298.out 0
         have hfz353_1 := bF BK298.out 1
         have hfz353_2 := bF BK298.out 2
         have hfz353_3 := bF BK298.out 3
         go_wp2_with (first | ((with_reducible refine gate_callee (f := 13) rfl ?_); refine goesL_ (some 118) rfl rfl Try.func13 (by kernel_rfl) rfl #[] rfl (by (try simp only [List.map_toArray, List.map_cons, List.map_nil]); first | done | rfl | (simp only [List.length_drop, List.length_take]; rfl)) ?_; (with_reducible refine (frisketlaw19_alive.calls  true _ A322.out).mono ?_); rintro e w354 ⟨rfl, hb⟩; refine ⟨_, rfl, ?_⟩; have n0_ := Aside0.mk (blk_below (g := gb274) (o := .cells #[.int .i64 a0_0, .int .i64 a0_1, .int .i64 a0_2] 26 (0, 0)) (by (with_reducible repeat (first | refine bN ?_ _ | refine bD ?_ | refine bA ?_ _)); exact BK274.out) hb); have n1_ := Aside0.mk (blk_below (g := gb275) (o := .cells #[.int .i64 a1_0, .int .i64 a1_1, .int .i64 a1_2, .int .i64 a1_3, .bool a1_4] 28 (0, 0)) (by (with_reducible repeat (first | refine bN ?_ _ | refine bD ?_ | refine bA ?_ _)); exact BK275.out) hb); have n2_ := Aside0.mk (blk_below (g := gb276) (o := .cells #[.int .i64 a2_0, .int .i64 a2_1, .int .i64 a2_2, .int .i64 a2_3, .bool a1_4] 28 (0, 0)) (by (with_reducible repeat (first | refine bN ?_ _ | refine bD ?_ | refine bA ?_ _)); exact BK276.out) hb); have n3_ := Aside0.mk (blk_below (g := gb287) (o := .cells #[.int .i64 t282, .int .i64 t283, .int .i64 t284, .int .i64 t285] 33 (0, 0)) (by (with_reducible repeat (first | refine bN ?_ _ | refine bD ?_ | refine bA ?_ _)); exact BK287.out) hb); have n4_ := Aside0.mk (blk_below (g := gb298) (o := .cells #[.int .i64 t293, .int .i64 t294, .int .i64 t295, .int .i64 t296] 33 (0, 0)) (by (with_reducible repeat (first | refine bN ?_ _ | refine bD ?_ | refine bA ?_ _)); exact BK298.out) hb); have n5_ := Aside0.mk (below_step (by repeat (first | (with_reducible first | exact HB.out | apply below_alloc | apply pw_below_drewN | apply below_drew1 | refine bS ?_ GE274.out | refine bS ?_ GE275.out | refine bS ?_ GE276.out | refine bS ?_ GE287.out | refine bS ?_ GE298.out) | exact HB.out)) hb); clear BK274; clear BK275; clear BK276; clear BK287; clear BK298; clear HB; have BK274 := n0_; have BK275 := n1_; have BK276 := n2_; have BK287 := n3_; have BK298 := n4_; have HB := n5_; clear n0_ n1_ n2_ n3_ n4_ n5_; (try clear hb); (try clear hb2); (try clear hk); (try clear hi)))
         go_ret
         exact ⟨by first | rfl | (simp [errW_none, errW_some] <;> rfl) | (simp [*, errW_none, errW_some] <;> rfl), by repeat (first | (with_reducible first | exact HB.out | apply below_alloc | apply pw_below_drewN | apply below_drew1 | refine bS ?_ GE274.out | refine bS ?_ GE275.out | refine bS ?_ GE276.out | refine bS ?_ GE287.out | refine bS ?_ GE298.out) | exact HB.out)⟩
       ·replace c323 := Bool.eq_false_iff.mpr c323
        subst c323
        have H1 : (some false) = some r := by rw [if_neg (show ¬ (false = true) by decide)] at H; exact H
        clear H
        have H := H1
        clear H1
        exact af_absurd HRT.out H (by repeat (first | exact AF.none | exact AF.false | refine AF.ite ?_ ?_ | refine AF.bind (fun _ => ?_)))
      ·rw [if_neg c321] at H
       have c321b0 : decide ((wrap64 (t282 + t284)) ≤ t293) = false := decide_eq_false c321
       clear c321
       by_cases c355 : (wrap64 (t293 + t295)) ≤ t282
       ·rw [if_pos c355] at H
        have c355b0 : decide ((wrap64 (t293 + t295)) ≤ t282) = true := decide_eq_true c355
        clear c355
        replace H := Option.bind_eq_some_iff.mp H
        obtain ⟨t313, A3560, H⟩ := H
        replace H : (if t313 = true then (if (wrap64 (a2_0 + a2_1)) ≤ a1_0 then (some (true == true)) else (some (true == (decide ((wrap64 (a2_2 + a2_3)) ≤ a1_2))))) else (some false)) = some r := H
        have A356 := Aside0.mk A3560
        clear A3560
        by_cases c357 : t313 = true
        ·subst c357
         have H1 : (if (wrap64 (a2_0 + a2_1)) ≤ a1_0 then (some (true == true)) else (some (true == (decide ((wrap64 (a2_2 + a2_3)) ≤ a1_2))))) = some r := by rw [if_pos rfl] at H; exact H
         clear H
         have H := H1
         clear H1
         by_cases c358 : (wrap64 (a2_0 + a2_1)) ≤ a1_0
         ·rw [if_pos c358] at H
          have c358b0 : decide ((wrap64 (a2_0 + a2_1)) ≤ a1_0) = true := decide_eq_true c358
          clear c358
          obtain rfl := Option.some.inj H
          have hnb359 := NB275_274.out
          have hnc359 := NB274_275.out
          have hnb360 := NB275_276.out
          have hnc360 := NB276_275.out
          have hnb361 := NB275_287.out
          have hnc361 := NB287_275.out
          have hnb362 := NB275_298.out
          have hnc362 := NB298_275.out
          have hcz363_0 := cI BK275.out 0 rfl
          have hcz363_1 := cI BK275.out 1 rfl
          have hcz363_2 := cI BK275.out 2 rfl
          have hcz363_3 := cI BK275.out 3 rfl
          have hcz363_4 := cI BK275.out 4 rfl
          have hfz363_0 := bF BK275.out 0
          have hfz363_1 := bF BK275.out 1
          have hfz363_2 := bF BK275.out 2
          have hfz363_3 := bF BK275.out 3
          have hfz363_4 := bF BK275.out 4
          have hnb364 := NB276_274.out
          have hnc364 := NB274_276.out
          have hnb365 := NB276_287.out
          have hnc365 := NB287_276.out
          have hnb366 := NB276_298.out
          have hnc366 := NB298_276.out
          have hcz367_0 := cI BK276.out 0 rfl
          have hcz367_1 := cI BK276.out 1 rfl
          have hcz367_2 := cI BK276.out 2 rfl
          have hcz367_3 := cI BK276.out 3 rfl
          have hcz367_4 := cI BK276.out 4 rfl
          have hfz367_0 := bF BK276.out 0
          have hfz367_1 := bF BK276.out 1
          have hfz367_2 := bF BK276.out 2
          have hfz367_3 := bF BK276.out 3
          have hfz367_4 := bF BK276.out 4
          have hnb368 := NB287_274.out
          have hnc368 := NB274_287.out
          have hnb369 := NB287_298.out
          have hnc369 := NB298_287.out
          have hcz370_0 := cI BK287.out 0 rfl
          have hcz370_1 := cI BK287.out 1 rfl
          have hcz370_2 := cI BK287.out 2 rfl
          have hcz370_3 := cI BK287.out 3 rfl
          have hfz370_0 := bF BK287.out 0
          have hfz370_1 := bF BK287.out 1
          have hfz370_2 := bF BK287.out 2
          have hfz370_3 := bF BK287.out 3
          have hnb371 := NB298_274.out
          have hnc371 := NB274_298.out
          have hcz372_0 := cI BK298.out 0 rfl
          have hcz372_1 := cI BK298.out 1 rfl
          have hcz372_2 := cI BK298.out 2 rfl
          have hcz372_3 := cI BK298.out 3 rfl
          have hfz372_0 := bF BK298.out 0
          have hfz372_1 := bF BK298.out 1
          have hfz372_2 := bF BK298.out 2
          have hfz372_3 := bF BK298.out 3
          go_wp2_with (first | ((with_reducible refine gate_callee (f := 13) rfl ?_); refine goesL_ (some 118) rfl rfl Try.func13 (by kernel_rfl) rfl #[] rfl (by (try simp only [List.map_toArray, List.map_cons, List.map_nil]); first | done | rfl | (simp only [List.length_drop, List.length_take]; rfl)) ?_; (with_reducible refine (frisketlaw19_alive.calls  true _ A356.out).mono ?_); rintro e w373 ⟨rfl, hb⟩; refine ⟨_, rfl, ?_⟩; have n0_ := Aside0.mk (blk_below (g := gb274) (o := .cells #[.int .i64 a0_0, .int .i64 a0_1, .int .i64 a0_2] 26 (0, 0)) (by (with_reducible repeat (first | refine bN ?_ _ | refine bD ?_ | refine bA ?_ _)); exact BK274.out) hb); have n1_ := Aside0.mk (blk_below (g := gb275) (o := .cells #[.int .i64 a1_0, .int .i64 a1_1, .int .i64 a1_2, .int .i64 a1_3, .bool a1_4] 28 (0, 0)) (by (with_reducible repeat (first | refine bN ?_ _ | refine bD ?_ | refine bA ?_ _)); exact BK275.out) hb); have n2_ := Aside0.mk (blk_below (g := gb276) (o := .cells #[.int .i64 a2_0, .int .i64 a2_1, .int .i64 a2_2, .int .i64 a2_3, .bool a1_4] 28 (0, 0)) (by (with_reducible repeat (first | refine bN ?_ _ | refine bD ?_ | refine bA ?_ _)); exact BK276.out) hb); have n3_ := Aside0.mk (blk_below (g := gb287) (o := .cells #[.int .i64 t282, .int .i64 t283, .int .i64 t284, .int .i64 t285] 33 (0, 0)) (by (with_reducible repeat (first | refine bN ?_ _ | refine bD ?_ | refine bA ?_ _)); exact BK287.out) hb); have n4_ := Aside0.mk (blk_below (g := gb298) (o := .cells #[.int .i64 t293, .int .i64 t294, .int .i64 t295, .int .i64 t296] 33 (0, 0)) (by (with_reducible repeat (first | refine bN ?_ _ | refine bD ?_ | refine bA ?_ _)); exact BK298.out) hb); have n5_ := Aside0.mk (below_step (by repeat (first | (with_reducible first | exact HB.out | apply below_alloc | apply pw_below_drewN | apply below_drew1 | refine bS ?_ GE274.out | refine bS ?_ GE275.out | refine bS ?_ GE276.out | refine bS ?_ GE287.out | refine bS ?_ GE298.out) | exact HB.out)) hb); clear BK274; clear BK275; clear BK276; clear BK287; clear BK298; clear HB; have BK274 := n0_; have BK275 := n1_; have BK276 := n2_; have BK287 := n3_; have BK298 := n4_; have HB := n5_; clear n0_ n1_ n2_ n3_ n4_ n5_; (try clear hb); (try clear hb2); (try clear hk); (try clear hi)))
          go_ret
          exact ⟨by first | rfl | (simp [errW_none, errW_some] <;> rfl) | (simp [*, errW_none, errW_some] <;> rfl), by repeat (first | (with_reducible first | exact HB.out | apply below_alloc | apply pw_below_drewN | apply below_drew1 | refine bS ?_ GE274.out | refine bS ?_ GE275.out | refine bS ?_ GE276.out | refine bS ?_ GE287.out | refine bS ?_ GE298.out) | exact HB.out)⟩
         ·rw [if_neg c358] at H
          have c358b0 : decide ((wrap64 (a2_0 + a2_1)) ≤ a1_0) = false := decide_eq_false c358
          clear c358
          obtain rfl := Option.some.inj H
          have hnb374 := NB275_274.out
          have hnc374 := NB274_275.out
          have hnb375 := NB275_276.out
          have hnc375 := NB276_275.out
          have hnb376 := NB275_287.out
          have hnc376 := NB287_275.out
          have hnb377 := NB275_298.out
          have hnc377 := NB298_275.out
          have hcz378_0 := cI BK275.out 0 rfl
          have hcz378_1 := cI BK275.out 1 rfl
          have hcz378_2 := cI BK275.out 2 rfl
          have hcz378_3 := cI BK275.out 3 rfl
          have hcz378_4 := cI BK275.out 4 rfl
          have hfz378_0 := bF BK275.out 0
          have hfz378_1 := bF BK275.out 1
          have hfz378_2 := bF BK275.out 2
          have hfz378_3 := bF BK275.out 3
          have hfz378_4 := bF BK275.out 4
          have hnb379 := NB276_274.out
          have hnc379 := NB274_276.out
          have hnb380 := NB276_287.out
          have hnc380 := NB287_276.out
          have hnb381 := NB276_298.out
          have hnc381 := NB298_276.out
          have hcz382_0 := cI BK276.out 0 rfl
          have hcz382_1 := cI BK276.out 1 rfl
          have hcz382_2 := cI BK276.out 2 rfl
          have hcz382_3 := cI BK276.out 3 rfl
          have hcz382_4 := cI BK276.out 4 rfl
          have hfz382_0 := bF BK276.out 0
          have hfz382_1 := bF BK276.out 1
          have hfz382_2 := bF BK276.out 2
          have hfz382_3 := bF BK276.out 3
          have hfz382_4 := bF BK276.out 4
          have hnb383 := NB287_274.out
          have hnc383 := NB274_287.out
          have hnb384 := NB287_298.out
          have hnc384 := NB298_287.out
          have hcz385_0 := cI BK287.out 0 rfl
          have hcz385_1 := cI BK287.out 1 rfl
          have hcz385_2 := cI BK287.out 2 rfl
          have hcz385_3 := cI BK287.out 3 rfl
          have hfz385_0 := bF BK287.out 0
          have hfz385_1 := bF BK287.out 1
          have hfz385_2 := bF BK287.out 2
          have hfz385_3 := bF BK287.out 3
          have hnb386 := NB298_274.out
          have hnc386 := NB274_298.out
          have hcz387_0 := cI BK298.out 0 rfl
          have hcz387_1 := cI BK298.out 1 rfl
          have hcz387_2 := cI BK298.out 2 rfl
          have hcz387_3 := cI BK298.out 3 rfl
          have hfz387_0 := bF BK298.out 0
          have hfz387_1 := bF BK298.out 1
          have hfz387_2 := bF BK298.out 2
          have hfz387_3 := bF BK298.out 3
          go_wp2_with (first | ((with_reducible refine gate_callee (f := 13) rfl ?_); refine goesL_ (some 118) rfl rfl Try.func13 (by kernel_rfl) rfl #[] rfl (by (try simp only [List.map_toArray, List.map_cons, List.map_nil]); first | done | rfl | (simp only [List.length_drop, List.length_take]; rfl)) ?_; (with_reducible refine (frisketlaw19_alive.calls  true _ A356.out).mono ?_); rintro e w388 ⟨rfl, hb⟩; refine ⟨_, rfl, ?_⟩; have n0_ := Aside0.mk (blk_below (g := gb274) (o := .cells #[.int .i64 a0_0, .int .i64 a0_1, .int .i64 a0_2] 26 (0, 0)) (by (with_reducible repeat (first | refine bN ?_ _ | refine bD ?_ | refine bA ?_ _)); exact BK274.out) hb); have n1_ := Aside0.mk (blk_below (g := gb275) (o := .cells #[.int .i64 a1_0, .int .i64 a1_1, .int .i64 a1_2, .int .i64 a1_3, .bool a1_4] 28 (0, 0)) (by (with_reducible repeat (first | refine bN ?_ _ | refine bD ?_ | refine bA ?_ _)); exact BK275.out) hb); have n2_ := Aside0.mk (blk_below (g := gb276) (o := .cells #[.int .i64 a2_0, .int .i64 a2_1, .int .i64 a2_2, .int .i64 a2_3, .bool a1_4] 28 (0, 0)) (by (with_reducible repeat (first | refine bN ?_ _ | refine bD ?_ | refine bA ?_ _)); exact BK276.out) hb); have n3_ := Aside0.mk (blk_below (g := gb287) (o := .cells #[.int .i64 t282, .int .i64 t283, .int .i64 t284, .int .i64 t285] 33 (0, 0)) (by (with_reducible repeat (first | refine bN ?_ _ | refine bD ?_ | refine bA ?_ _)); exact BK287.out) hb); have n4_ := Aside0.mk (blk_below (g := gb298) (o := .cells #[.int .i64 t293, .int .i64 t294, .int .i64 t295, .int .i64 t296] 33 (0, 0)) (by (with_reducible repeat (first | refine bN ?_ _ | refine bD ?_ | refine bA ?_ _)); exact BK298.out) hb); have n5_ := Aside0.mk (below_step (by repeat (first | (with_reducible first | exact HB.out | apply below_alloc | apply pw_below_drewN | apply below_drew1 | refine bS ?_ GE274.out | refine bS ?_ GE275.out | refine bS ?_ GE276.out | refine bS ?_ GE287.out | refine bS ?_ GE298.out) | exact HB.out)) hb); clear BK274; clear BK275; clear BK276; clear BK287; clear BK298; clear HB; have BK274 := n0_; have BK275 := n1_; have BK276 := n2_; have BK287 := n3_; have BK298 := n4_; have HB := n5_; clear n0_ n1_ n2_ n3_ n4_ n5_; (try clear hb); (try clear hb2); (try clear hk); (try clear hi)))
          go_ret
          exact ⟨by first | rfl | (simp [errW_none, errW_some] <;> rfl) | (simp [*, errW_none, errW_some] <;> rfl), by repeat (first | (with_reducible first | exact HB.out | apply below_alloc | apply pw_below_drewN | apply below_drew1 | refine bS ?_ GE274.out | refine bS ?_ GE275.out | refine bS ?_ GE276.out | refine bS ?_ GE287.out | refine bS ?_ GE298.out) | exact HB.out)⟩
        ·replace c357 := Bool.eq_false_iff.mpr c357
         subst c357
         have H1 : (some false) = some r := by rw [if_neg (show ¬ (false = true) by decide)] at H; exact H
         clear H
         have H := H1
         clear H1
         exact af_absurd HRT.out H (by repeat (first | exact AF.none | exact AF.false | refine AF.ite ?_ ?_ | refine AF.bind (fun _ => ?_)))
       ·rw [if_neg c355] at H
        have c355b0 : decide ((wrap64 (t293 + t295)) ≤ t282) = false := decide_eq_false c355
        clear c355
        by_cases c389 : (wrap64 (t283 + t285)) ≤ t294
        ·rw [if_pos c389] at H
         have c389b0 : decide ((wrap64 (t283 + t285)) ≤ t294) = true := decide_eq_true c389
         clear c389
         replace H := Option.bind_eq_some_iff.mp H
         obtain ⟨t314, A3900, H⟩ := H
         replace H : (if t314 = true then (if (wrap64 (a2_0 + a2_1)) ≤ a1_0 then (some (true == true)) else (some (true == (decide ((wrap64 (a2_2 + a2_3)) ≤ a1_2))))) else (some false)) = some r := H
         have A390 := Aside0.mk A3900
         clear A3900
         by_cases c391 : t314 = true
         ·subst c391
          have H1 : (if (wrap64 (a2_0 + a2_1)) ≤ a1_0 then (some (true == true)) else (some (true == (decide ((wrap64 (a2_2 + a2_3)) ≤ a1_2))))) = some r := by rw [if_pos rfl] at H; exact H
          clear H
          have H := H1
          clear H1
          by_cases c392 : (wrap64 (a2_0 + a2_1)) ≤ a1_0
          ·rw [if_pos c392] at H
           have c392b0 : decide ((wrap64 (a2_0 + a2_1)) ≤ a1_0) = true := decide_eq_true c392
           clear c392
           obtain rfl := Option.some.inj H
           have hnb393 := NB275_274.out
           have hnc393 := NB274_275.out
           have hnb394 := NB275_276.out
           have hnc394 := NB276_275.out
           have hnb395 := NB275_287.out
           have hnc395 := NB287_275.out
           have hnb396 := NB275_298.out
           have hnc396 := NB298_275.out
           have hcz397_0 := cI BK275.out 0 rfl
           have hcz397_1 := cI BK275.out 1 rfl
           have hcz397_2 := cI BK275.out 2 rfl
           have hcz397_3 := cI BK275.out 3 rfl
           have hcz397_4 := cI BK275.out 4 rfl
           have hfz397_0 := bF BK275.out 0
           have hfz397_1 := bF BK275.out 1
           have hfz397_2 := bF BK275.out 2
           have hfz397_3 := bF BK275.out 3
           have hfz397_4 := bF BK275.out 4
           have hnb398 := NB276_274.out
           have hnc398 := NB274_276.out
           have hnb399 := NB276_287.out
           have hnc399 := NB287_276.out
           have hnb400 := NB276_298.out
           have hnc400 := NB298_276.out
           have hcz401_0 := cI BK276.out 0 rfl
           have hcz401_1 := cI BK276.out 1 rfl
           have hcz401_2 := cI BK276.out 2 rfl
           have hcz401_3 := cI BK276.out 3 rfl
           have hcz401_4 := cI BK276.out 4 rfl
           have hfz401_0 := bF BK276.out 0
           have hfz401_1 := bF BK276.out 1
           have hfz401_2 := bF BK276.out 2
           have hfz401_3 := bF BK276.out 3
           have hfz401_4 := bF BK276.out 4
           have hnb402 := NB287_274.out
           have hnc402 := NB274_287.out
           have hnb403 := NB287_298.out
           have hnc403 := NB298_287.out
           have hcz404_0 := cI BK287.out 0 rfl
           have hcz404_1 := cI BK287.out 1 rfl
           have hcz404_2 := cI BK287.out 2 rfl
           have hcz404_3 := cI BK287.out 3 rfl
           have hfz404_0 := bF BK287.out 0
           have hfz404_1 := bF BK287.out 1
           have hfz404_2 := bF BK287.out 2
           have hfz404_3 := bF BK287.out 3
           have hnb405 := NB298_274.out
           have hnc405 := NB274_298.out
           have hcz406_0 := cI BK298.out 0 rfl
           have hcz406_1 := cI BK298.out 1 rfl
           have hcz406_2 := cI BK298.out 2 rfl
           have hcz406_3 := cI BK298.out 3 rfl
           have hfz406_0 := bF BK298.out 0
           have hfz406_1 := bF BK298.out 1
           have hfz406_2 := bF BK298.out 2
           have hfz406_3 := bF BK298.out 3
           go_wp2_with (first | ((with_reducible refine gate_callee (f := 13) rfl ?_); refine goesL_ (some 118) rfl rfl Try.func13 (by kernel_rfl) rfl #[] rfl (by (try simp only [List.map_toArray, List.map_cons, List.map_nil]); first | done | rfl | (simp only [List.length_drop, List.length_take]; rfl)) ?_; (with_reducible refine (frisketlaw19_alive.calls  true _ A390.out).mono ?_); rintro e w407 ⟨rfl, hb⟩; refine ⟨_, rfl, ?_⟩; have n0_ := Aside0.mk (blk_below (g := gb274) (o := .cells #[.int .i64 a0_0, .int .i64 a0_1, .int .i64 a0_2] 26 (0, 0)) (by (with_reducible repeat (first | refine bN ?_ _ | refine bD ?_ | refine bA ?_ _)); exact BK274.out) hb); have n1_ := Aside0.mk (blk_below (g := gb275) (o := .cells #[.int .i64 a1_0, .int .i64 a1_1, .int .i64 a1_2, .int .i64 a1_3, .bool a1_4] 28 (0, 0)) (by (with_reducible repeat (first | refine bN ?_ _ | refine bD ?_ | refine bA ?_ _)); exact BK275.out) hb); have n2_ := Aside0.mk (blk_below (g := gb276) (o := .cells #[.int .i64 a2_0, .int .i64 a2_1, .int .i64 a2_2, .int .i64 a2_3, .bool a1_4] 28 (0, 0)) (by (with_reducible repeat (first | refine bN ?_ _ | refine bD ?_ | refine bA ?_ _)); exact BK276.out) hb); have n3_ := Aside0.mk (blk_below (g := gb287) (o := .cells #[.int .i64 t282, .int .i64 t283, .int .i64 t284, .int .i64 t285] 33 (0, 0)) (by (with_reducible repeat (first | refine bN ?_ _ | refine bD ?_ | refine bA ?_ _)); exact BK287.out) hb); have n4_ := Aside0.mk (blk_below (g := gb298) (o := .cells #[.int .i64 t293, .int .i64 t294, .int .i64 t295, .int .i64 t296] 33 (0, 0)) (by (with_reducible repeat (first | refine bN ?_ _ | refine bD ?_ | refine bA ?_ _)); exact BK298.out) hb); have n5_ := Aside0.mk (below_step (by repeat (first | (with_reducible first | exact HB.out | apply below_alloc | apply pw_below_drewN | apply below_drew1 | refine bS ?_ GE274.out | refine bS ?_ GE275.out | refine bS ?_ GE276.out | refine bS ?_ GE287.out | refine bS ?_ GE298.out) | exact HB.out)) hb); clear BK274; clear BK275; clear BK276; clear BK287; clear BK298; clear HB; have BK274 := n0_; have BK275 := n1_; have BK276 := n2_; have BK287 := n3_; have BK298 := n4_; have HB := n5_; clear n0_ n1_ n2_ n3_ n4_ n5_; (try clear hb); (try clear hb2); (try clear hk); (try clear hi)))
           go_ret
           exact ⟨by first | rfl | (simp [errW_none, errW_some] <;> rfl) | (simp [*, errW_none, errW_some] <;> rfl), by repeat (first | (with_reducible first | exact HB.out | apply below_alloc | apply pw_below_drewN | apply below_drew1 | refine bS ?_ GE274.out | refine bS ?_ GE275.out | refine bS ?_ GE276.out | refine bS ?_ GE287.out | refine bS ?_ GE298.out) | exact HB.out)⟩
          ·rw [if_neg c392] at H
           have c392b0 : decide ((wrap64 (a2_0 + a2_1)) ≤ a1_0) = false := decide_eq_false c392
           clear c392
           obtain rfl := Option.some.inj H
           have hnb408 := NB275_274.out
           have hnc408 := NB274_275.out
           have hnb409 := NB275_276.out
           have hnc409 := NB276_275.out
           have hnb410 := NB275_287.out
           have hnc410 := NB287_275.out
           have hnb411 := NB275_298.out
           have hnc411 := NB298_275.out
           have hcz412_0 := cI BK275.out 0 rfl
           have hcz412_1 := cI BK275.out 1 rfl
           have hcz412_2 := cI BK275.out 2 rfl
           have hcz412_3 := cI BK275.out 3 rfl
           have hcz412_4 := cI BK275.out 4 rfl
           have hfz412_0 := bF BK275.out 0
           have hfz412_1 := bF BK275.out 1
           have hfz412_2 := bF BK275.out 2
           have hfz412_3 := bF BK275.out 3
           have hfz412_4 := bF BK275.out 4
           have hnb413 := NB276_274.out
           have hnc413 := NB274_276.out
           have hnb414 := NB276_287.out
           have hnc414 := NB287_276.out
           have hnb415 := NB276_298.out
           have hnc415 := NB298_276.out
           have hcz416_0 := cI BK276.out 0 rfl
           have hcz416_1 := cI BK276.out 1 rfl
           have hcz416_2 := cI BK276.out 2 rfl
           have hcz416_3 := cI BK276.out 3 rfl
           have hcz416_4 := cI BK276.out 4 rfl
           have hfz416_0 := bF BK276.out 0
           have hfz416_1 := bF BK276.out 1
           have hfz416_2 := bF BK276.out 2
           have hfz416_3 := bF BK276.out 3
           have hfz416_4 := bF BK276.out 4
           have hnb417 := NB287_274.out
           have hnc417 := NB274_287.out
           have hnb418 := NB287_298.out
           have hnc418 := NB298_287.out
           have hcz419_0 := cI BK287.out 0 rfl
           have hcz419_1 := cI BK287.out 1 rfl
           have hcz419_2 := cI BK287.out 2 rfl
           have hcz419_3 := cI BK287.out 3 rfl
           have hfz419_0 := bF BK287.out 0
           have hfz419_1 := bF BK287.out 1
           have hfz419_2 := bF BK287.out 2
           have hfz419_3 := bF BK287.out 3
           have hnb420 := NB298_274.out
           have hnc420 := NB274_298.out
           have hcz421_0 := cI BK298.out 0 rfl
           have hcz421_1 := cI BK298.out 1 rfl
           have hcz421_2 := cI BK298.out 2 rfl
           have hcz421_3 := cI BK298.out 3 rfl
           have hfz421_0 := bF BK298.out 0
           have hfz421_1 := bF BK298.out 1
           have hfz421_2 := bF BK298.out 2
           have hfz421_3 := bF BK298.out 3
           go_wp2_with (first | ((with_reducible refine gate_callee (f := 13) rfl ?_); refine goesL_ (some 118) rfl rfl Try.func13 (by kernel_rfl) rfl #[] rfl (by (try simp only [List.map_toArray, List.map_cons, List.map_nil]); first | done | rfl | (simp only [List.length_drop, List.length_take]; rfl)) ?_; (with_reducible refine (frisketlaw19_alive.calls  true _ A390.out).mono ?_); rintro e w422 ⟨rfl, hb⟩; refine ⟨_, rfl, ?_⟩; have n0_ := Aside0.mk (blk_below (g := gb274) (o := .cells #[.int .i64 a0_0, .int .i64 a0_1, .int .i64 a0_2] 26 (0, 0)) (by (with_reducible repeat (first | refine bN ?_ _ | refine bD ?_ | refine bA ?_ _)); exact BK274.out) hb); have n1_ := Aside0.mk (blk_below (g := gb275) (o := .cells #[.int .i64 a1_0, .int .i64 a1_1, .int .i64 a1_2, .int .i64 a1_3, .bool a1_4] 28 (0, 0)) (by (with_reducible repeat (first | refine bN ?_ _ | refine bD ?_ | refine bA ?_ _)); exact BK275.out) hb); have n2_ := Aside0.mk (blk_below (g := gb276) (o := .cells #[.int .i64 a2_0, .int .i64 a2_1, .int .i64 a2_2, .int .i64 a2_3, .bool a1_4] 28 (0, 0)) (by (with_reducible repeat (first | refine bN ?_ _ | refine bD ?_ | refine bA ?_ _)); exact BK276.out) hb); have n3_ := Aside0.mk (blk_below (g := gb287) (o := .cells #[.int .i64 t282, .int .i64 t283, .int .i64 t284, .int .i64 t285] 33 (0, 0)) (by (with_reducible repeat (first | refine bN ?_ _ | refine bD ?_ | refine bA ?_ _)); exact BK287.out) hb); have n4_ := Aside0.mk (blk_below (g := gb298) (o := .cells #[.int .i64 t293, .int .i64 t294, .int .i64 t295, .int .i64 t296] 33 (0, 0)) (by (with_reducible repeat (first | refine bN ?_ _ | refine bD ?_ | refine bA ?_ _)); exact BK298.out) hb); have n5_ := Aside0.mk (below_step (by repeat (first | (with_reducible first | exact HB.out | apply below_alloc | apply pw_below_drewN | apply below_drew1 | refine bS ?_ GE274.out | refine bS ?_ GE275.out | refine bS ?_ GE276.out | refine bS ?_ GE287.out | refine bS ?_ GE298.out) | exact HB.out)) hb); clear BK274; clear BK275; clear BK276; clear BK287; clear BK298; clear HB; have BK274 := n0_; have BK275 := n1_; have BK276 := n2_; have BK287 := n3_; have BK298 := n4_; have HB := n5_; clear n0_ n1_ n2_ n3_ n4_ n5_; (try clear hb); (try clear hb2); (try clear hk); (try clear hi)))
           go_ret
           exact ⟨by first | rfl | (simp [errW_none, errW_some] <;> rfl) | (simp [*, errW_none, errW_some] <;> rfl), by repeat (first | (with_reducible first | exact HB.out | apply below_alloc | apply pw_below_drewN | apply below_drew1 | refine bS ?_ GE274.out | refine bS ?_ GE275.out | refine bS ?_ GE276.out | refine bS ?_ GE287.out | refine bS ?_ GE298.out) | exact HB.out)⟩
         ·replace c391 := Bool.eq_false_iff.mpr c391
          subst c391
          have H1 : (some false) = some r := by rw [if_neg (show ¬ (false = true) by decide)] at H; exact H
          clear H
          have H := H1
          clear H1
          exact af_absurd HRT.out H (by repeat (first | exact AF.none | exact AF.false | refine AF.ite ?_ ?_ | refine AF.bind (fun _ => ?_)))
        ·rw [if_neg c389] at H
         have c389b0 : decide ((wrap64 (t283 + t285)) ≤ t294) = false := decide_eq_false c389
         clear c389
         replace H := Option.bind_eq_some_iff.mp H
         obtain ⟨t315, A4230, H⟩ := H
         replace H : (if t315 = true then (if (wrap64 (a2_0 + a2_1)) ≤ a1_0 then (some ((decide ((wrap64 (t294 + t296)) ≤ t283)) == true)) else (some ((decide ((wrap64 (t294 + t296)) ≤ t283)) == (decide ((wrap64 (a2_2 + a2_3)) ≤ a1_2))))) else (some false)) = some r := H
         have A423 := Aside0.mk A4230
         clear A4230
         by_cases c424 : t315 = true
         ·subst c424
          have H1 : (if (wrap64 (a2_0 + a2_1)) ≤ a1_0 then (some ((decide ((wrap64 (t294 + t296)) ≤ t283)) == true)) else (some ((decide ((wrap64 (t294 + t296)) ≤ t283)) == (decide ((wrap64 (a2_2 + a2_3)) ≤ a1_2))))) = some r := by rw [if_pos rfl] at H; exact H
          clear H
          have H := H1
          clear H1
          by_cases c425 : (wrap64 (a2_0 + a2_1)) ≤ a1_0
          ·rw [if_pos c425] at H
           have c425b0 : decide ((wrap64 (a2_0 + a2_1)) ≤ a1_0) = true := decide_eq_true c425
           clear c425
           obtain rfl := Option.some.inj H
           have hnb426 := NB275_274.out
           have hnc426 := NB274_275.out
           have hnb427 := NB275_276.out
           have hnc427 := NB276_275.out
           have hnb428 := NB275_287.out
           have hnc428 := NB287_275.out
           have hnb429 := NB275_298.out
           have hnc429 := NB298_275.out
           have hcz430_0 := cI BK275.out 0 rfl
           have hcz430_1 := cI BK275.out 1 rfl
           have hcz430_2 := cI BK275.out 2 rfl
           have hcz430_3 := cI BK275.out 3 rfl
           have hcz430_4 := cI BK275.out 4 rfl
           have hfz430_0 := bF BK275.out 0
           have hfz430_1 := bF BK275.out 1
           have hfz430_2 := bF BK275.out 2
           have hfz430_3 := bF BK275.out 3
           have hfz430_4 := bF BK275.out 4
           have hnb431 := NB276_274.out
           have hnc431 := NB274_276.out
           have hnb432 := NB276_287.out
           have hnc432 := NB287_276.out
           have hnb433 := NB276_298.out
           have hnc433 := NB298_276.out
           have hcz434_0 := cI BK276.out 0 rfl
           have hcz434_1 := cI BK276.out 1 rfl
           have hcz434_2 := cI BK276.out 2 rfl
           have hcz434_3 := cI BK276.out 3 rfl
           have hcz434_4 := cI BK276.out 4 rfl
           have hfz434_0 := bF BK276.out 0
           have hfz434_1 := bF BK276.out 1
           have hfz434_2 := bF BK276.out 2
           have hfz434_3 := bF BK276.out 3
           have hfz434_4 := bF BK276.out 4
           have hnb435 := NB287_274.out
           have hnc435 := NB274_287.out
           have hnb436 := NB287_298.out
           have hnc436 := NB298_287.out
           have hcz437_0 := cI BK287.out 0 rfl
           have hcz437_1 := cI BK287.out 1 rfl
           have hcz437_2 := cI BK287.out 2 rfl
           have hcz437_3 := cI BK287.out 3 rfl
           have hfz437_0 := bF BK287.out 0
           have hfz437_1 := bF BK287.out 1
           have hfz437_2 := bF BK287.out 2
           have hfz437_3 := bF BK287.out 3
           have hnb438 := NB298_274.out
           have hnc438 := NB274_298.out
           have hcz439_0 := cI BK298.out 0 rfl
           have hcz439_1 := cI BK298.out 1 rfl
           have hcz439_2 := cI BK298.out 2 rfl
           have hcz439_3 := cI BK298.out 3 rfl
           have hfz439_0 := bF BK298.out 0
           have hfz439_1 := bF BK298.out 1
           have hfz439_2 := bF BK298.out 2
           have hfz439_3 := bF BK298.out 3
           go_wp2_with (first | ((with_reducible refine gate_callee (f := 13) rfl ?_); refine goesL_ (some 118) rfl rfl Try.func13 (by kernel_rfl) rfl #[] rfl (by (try simp only [List.map_toArray, List.map_cons, List.map_nil]); first | done | rfl | (simp only [List.length_drop, List.length_take]; rfl)) ?_; (with_reducible refine (frisketlaw19_alive.calls  true _ A423.out).mono ?_); rintro e w440 ⟨rfl, hb⟩; refine ⟨_, rfl, ?_⟩; have n0_ := Aside0.mk (blk_below (g := gb274) (o := .cells #[.int .i64 a0_0, .int .i64 a0_1, .int .i64 a0_2] 26 (0, 0)) (by (with_reducible repeat (first | refine bN ?_ _ | refine bD ?_ | refine bA ?_ _)); exact BK274.out) hb); have n1_ := Aside0.mk (blk_below (g := gb275) (o := .cells #[.int .i64 a1_0, .int .i64 a1_1, .int .i64 a1_2, .int .i64 a1_3, .bool a1_4] 28 (0, 0)) (by (with_reducible repeat (first | refine bN ?_ _ | refine bD ?_ | refine bA ?_ _)); exact BK275.out) hb); have n2_ := Aside0.mk (blk_below (g := gb276) (o := .cells #[.int .i64 a2_0, .int .i64 a2_1, .int .i64 a2_2, .int .i64 a2_3, .bool a1_4] 28 (0, 0)) (by (with_reducible repeat (first | refine bN ?_ _ | refine bD ?_ | refine bA ?_ _)); exact BK276.out) hb); have n3_ := Aside0.mk (blk_below (g := gb287) (o := .cells #[.int .i64 t282, .int .i64 t283, .int .i64 t284, .int .i64 t285] 33 (0, 0)) (by (with_reducible repeat (first | refine bN ?_ _ | refine bD ?_ | refine bA ?_ _)); exact BK287.out) hb); have n4_ := Aside0.mk (blk_below (g := gb298) (o := .cells #[.int .i64 t293, .int .i64 t294, .int .i64 t295, .int .i64 t296] 33 (0, 0)) (by (with_reducible repeat (first | refine bN ?_ _ | refine bD ?_ | refine bA ?_ _)); exact BK298.out) hb); have n5_ := Aside0.mk (below_step (by repeat (first | (with_reducible first | exact HB.out | apply below_alloc | apply pw_below_drewN | apply below_drew1 | refine bS ?_ GE274.out | refine bS ?_ GE275.out | refine bS ?_ GE276.out | refine bS ?_ GE287.out | refine bS ?_ GE298.out) | exact HB.out)) hb); clear BK274; clear BK275; clear BK276; clear BK287; clear BK298; clear HB; have BK274 := n0_; have BK275 := n1_; have BK276 := n2_; have BK287 := n3_; have BK298 := n4_; have HB := n5_; clear n0_ n1_ n2_ n3_ n4_ n5_; (try clear hb); (try clear hb2); (try clear hk); (try clear hi)))
           go_ret
           exact ⟨by first | rfl | (simp [errW_none, errW_some] <;> rfl) | (simp [*, errW_none, errW_some] <;> rfl), by repeat (first | (with_reducible first | exact HB.out | apply below_alloc | apply pw_below_drewN | apply below_drew1 | refine bS ?_ GE274.out | refine bS ?_ GE275.out | refine bS ?_ GE276.out | refine bS ?_ GE287.out | refine bS ?_ GE298.out) | exact HB.out)⟩
          ·rw [if_neg c425] at H
           have c425b0 : decide ((wrap64 (a2_0 + a2_1)) ≤ a1_0) = false := decide_eq_false c425
           clear c425
           obtain rfl := Option.some.inj H
           have hnb441 := NB275_274.out
           have hnc441 := NB274_275.out
           have hnb442 := NB275_276.out
           have hnc442 := NB276_275.out
           have hnb443 := NB275_287.out
           have hnc443 := NB287_275.out
           have hnb444 := NB275_298.out
           have hnc444 := NB298_275.out
           have hcz445_0 := cI BK275.out 0 rfl
           have hcz445_1 := cI BK275.out 1 rfl
           have hcz445_2 := cI BK275.out 2 rfl
           have hcz445_3 := cI BK275.out 3 rfl
           have hcz445_4 := cI BK275.out 4 rfl
           have hfz445_0 := bF BK275.out 0
           have hfz445_1 := bF BK275.out 1
           have hfz445_2 := bF BK275.out 2
           have hfz445_3 := bF BK275.out 3
           have hfz445_4 := bF BK275.out 4
           have hnb446 := NB276_274.out
           have hnc446 := NB274_276.out
           have hnb447 := NB276_287.out
           have hnc447 := NB287_276.out
           have hnb448 := NB276_298.out
           have hnc448 := NB298_276.out
           have hcz449_0 := cI BK276.out 0 rfl
           have hcz449_1 := cI BK276.out 1 rfl
           have hcz449_2 := cI BK276.out 2 rfl
           have hcz449_3 := cI BK276.out 3 rfl
           have hcz449_4 := cI BK276.out 4 rfl
           have hfz449_0 := bF BK276.out 0
           have hfz449_1 := bF BK276.out 1
           have hfz449_2 := bF BK276.out 2
           have hfz449_3 := bF BK276.out 3
           have hfz449_4 := bF BK276.out 4
           have hnb450 := NB287_274.out
           have hnc450 := NB274_287.out
           have hnb451 := NB287_298.out
           have hnc451 := NB298_287.out
           have hcz452_0 := cI BK287.out 0 rfl
           have hcz452_1 := cI BK287.out 1 rfl
           have hcz452_2 := cI BK287.out 2 rfl
           have hcz452_3 := cI BK287.out 3 rfl
           have hfz452_0 := bF BK287.out 0
           have hfz452_1 := bF BK287.out 1
           have hfz452_2 := bF BK287.out 2
           have hfz452_3 := bF BK287.out 3
           have hnb453 := NB298_274.out
           have hnc453 := NB274_298.out
           have hcz454_0 := cI BK298.out 0 rfl
           have hcz454_1 := cI BK298.out 1 rfl
           have hcz454_2 := cI BK298.out 2 rfl
           have hcz454_3 := cI BK298.out 3 rfl
           have hfz454_0 := bF BK298.out 0
           have hfz454_1 := bF BK298.out 1
           have hfz454_2 := bF BK298.out 2
           have hfz454_3 := bF BK298.out 3
           go_wp2_with (first | ((with_reducible refine gate_callee (f := 13) rfl ?_); refine goesL_ (some 118) rfl rfl Try.func13 (by kernel_rfl) rfl #[] rfl (by (try simp only [List.map_toArray, List.map_cons, List.map_nil]); first | done | rfl | (simp only [List.length_drop, List.length_take]; rfl)) ?_; (with_reducible refine (frisketlaw19_alive.calls  true _ A423.out).mono ?_); rintro e w455 ⟨rfl, hb⟩; refine ⟨_, rfl, ?_⟩; have n0_ := Aside0.mk (blk_below (g := gb274) (o := .cells #[.int .i64 a0_0, .int .i64 a0_1, .int .i64 a0_2] 26 (0, 0)) (by (with_reducible repeat (first | refine bN ?_ _ | refine bD ?_ | refine bA ?_ _)); exact BK274.out) hb); have n1_ := Aside0.mk (blk_below (g := gb275) (o := .cells #[.int .i64 a1_0, .int .i64 a1_1, .int .i64 a1_2, .int .i64 a1_3, .bool a1_4] 28 (0, 0)) (by (with_reducible repeat (first | refine bN ?_ _ | refine bD ?_ | refine bA ?_ _)); exact BK275.out) hb); have n2_ := Aside0.mk (blk_below (g := gb276) (o := .cells #[.int .i64 a2_0, .int .i64 a2_1, .int .i64 a2_2, .int .i64 a2_3, .bool a1_4] 28 (0, 0)) (by (with_reducible repeat (first | refine bN ?_ _ | refine bD ?_ | refine bA ?_ _)); exact BK276.out) hb); have n3_ := Aside0.mk (blk_below (g := gb287) (o := .cells #[.int .i64 t282, .int .i64 t283, .int .i64 t284, .int .i64 t285] 33 (0, 0)) (by (with_reducible repeat (first | refine bN ?_ _ | refine bD ?_ | refine bA ?_ _)); exact BK287.out) hb); have n4_ := Aside0.mk (blk_below (g := gb298) (o := .cells #[.int .i64 t293, .int .i64 t294, .int .i64 t295, .int .i64 t296] 33 (0, 0)) (by (with_reducible repeat (first | refine bN ?_ _ | refine bD ?_ | refine bA ?_ _)); exact BK298.out) hb); have n5_ := Aside0.mk (below_step (by repeat (first | (with_reducible first | exact HB.out | apply below_alloc | apply pw_below_drewN | apply below_drew1 | refine bS ?_ GE274.out | refine bS ?_ GE275.out | refine bS ?_ GE276.out | refine bS ?_ GE287.out | refine bS ?_ GE298.out) | exact HB.out)) hb); clear BK274; clear BK275; clear BK276; clear BK287; clear BK298; clear HB; have BK274 := n0_; have BK275 := n1_; have BK276 := n2_; have BK287 := n3_; have BK298 := n4_; have HB := n5_; clear n0_ n1_ n2_ n3_ n4_ n5_; (try clear hb); (try clear hb2); (try clear hk); (try clear hi)))
           go_ret
           exact ⟨by first | rfl | (simp [errW_none, errW_some] <;> rfl) | (simp [*, errW_none, errW_some] <;> rfl), by repeat (first | (with_reducible first | exact HB.out | apply below_alloc | apply pw_below_drewN | apply below_drew1 | refine bS ?_ GE274.out | refine bS ?_ GE275.out | refine bS ?_ GE276.out | refine bS ?_ GE287.out | refine bS ?_ GE298.out) | exact HB.out)⟩
         ·replace c424 := Bool.eq_false_iff.mpr c424
          subst c424
          have H1 : (some false) = some r := by rw [if_neg (show ¬ (false = true) by decide)] at H; exact H
          clear H
          have H := H1
          clear H1
          exact af_absurd HRT.out H (by repeat (first | exact AF.none | exact AF.false | refine AF.ite ?_ ?_ | refine AF.bind (fun _ => ?_)))

end Go.Proofs.Ytfaaahchcghnlaa.P
