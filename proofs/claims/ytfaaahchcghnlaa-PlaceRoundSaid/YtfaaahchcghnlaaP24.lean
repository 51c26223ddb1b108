/- Written by wip/tools/gprint.py of this repo over the translation: Lean functions that answer as the Go functions named below do, and the proof of it; the conditions stand in each theorem. -/
import Derived.Test.YtfaaahchcghnlaaP0
import Derived.Test.YtfaaahchcghnlaaP2
import Derived.Test.YtfaaahchcghnlaaP14
import Derived.Test.YtfaaahchcghnlaaP18
import Derived.Test.YtfaaahchcghnlaaHPlace
namespace Go.Proofs.Ytfaaahchcghnlaa.P
open Go.RowKit Go.Proofs.YtfaaahchcghnlaaW.PrintWords Go.Proofs.YtfaaahchcghnlaaW.PrintLast Go.Proofs.YtfaaahchcghnlaaW.PrintMore
attribute [local go_sem] max2_int min2_int max_two min_two max_three min_three max_four min_four   -- for this text's walks alone
set_option linter.unusedVariables false
set_option linter.unusedSimpArgs false

attribute [local go_sem high] eqA36
/-! ### frisketlaw19_PlaceRound: function 5 -/
def frisketlaw19_PlaceRound.f (a0_0 : Int) (a0_1 : Int) (a0_2 : Int) (a1_0 : Int) (a1_1 : Int) (a1_2 : Int) (a1_3 : Int) (a1_4 : Bool) : Option (Bool) := (frisketlaw19_box.f a1_0 a1_1 a1_2 a1_3 a1_4).bind fun bt234 => ((place_Cells.f a0_0 a0_1 a0_2 bt234.1 bt234.2.1 bt234.2.2.1 bt234.2.2.2.1 bt234.2.2.2.2).bind fun bt239 => (if bt239.2.2.2.2 = 0 then ((place_Sides.f a0_0 a0_1 a0_2).bind fun bt246 => ((place_Of.f a0_0 a0_1 a0_2 bt239.1 bt239.2.1 bt239.2.2.1 bt239.2.2.2.1 a1_4).bind fun bt249 => ((frisketlaw19_box.f a1_0 a1_1 a1_2 a1_3 a1_4).bind fun bt256 => (if a1_4 = true then (if bt239.1 ≥ 0 then (if bt239.2.1 ≥ 0 then (if bt239.2.2.1 ≥ 1 then (if bt239.2.2.2.1 ≥ 1 then (if (wrap64 (bt239.1 + bt239.2.2.1)) ≤ bt246.1 then ((frisketlaw19_alive.f).bind fun t262 => (if t262 = true then (if bt246.2.2 = 0 then (if bt249.2.2.2.2.2 = 0 then (if (bt249.1 == bt256.1 && (bt249.2.1 == bt256.2.1 && (bt249.2.2.1 == bt256.2.2.1 && (bt249.2.2.2.1 == bt256.2.2.2.1 && (bt249.2.2.2.2.1 == (a0_2 == 3)))))) = true then (if (wrap64 (bt239.2.1 + bt239.2.2.2.1)) ≤ bt246.2.1 then (if (wrap64 (bt239.2.2.1 * bt239.2.2.2.1)) = (wrap64 (a1_1 * a1_3)) then (some ((wrap64 (bt246.1 * bt246.2.1)) == (wrap64 (a0_0 * a0_1)))) else (some false)) else (some false)) else (some false)) else (some false)) else (some false)) else (some false))) else ((frisketlaw19_alive.f).bind fun t263 => (if t263 = true then (if bt246.2.2 = 0 then (if bt249.2.2.2.2.2 = 0 then (if (bt249.1 == bt256.1 && (bt249.2.1 == bt256.2.1 && (bt249.2.2.1 == bt256.2.2.1 && (bt249.2.2.2.1 == bt256.2.2.2.1 && (bt249.2.2.2.2.1 == (a0_2 == 3)))))) = true then (some false) else (some false)) else (some false)) else (some false)) else (some false)))) else ((frisketlaw19_alive.f).bind fun t264 => (if t264 = true then (if bt246.2.2 = 0 then (if bt249.2.2.2.2.2 = 0 then (if (bt249.1 == bt256.1 && (bt249.2.1 == bt256.2.1 && (bt249.2.2.1 == bt256.2.2.1 && (bt249.2.2.2.1 == bt256.2.2.2.1 && (bt249.2.2.2.2.1 == (a0_2 == 3)))))) = true then (some false) else (some false)) else (some false)) else (some false)) else (some false)))) else ((frisketlaw19_alive.f).bind fun t265 => (if t265 = true then (if bt246.2.2 = 0 then (if bt249.2.2.2.2.2 = 0 then (if (bt249.1 == bt256.1 && (bt249.2.1 == bt256.2.1 && (bt249.2.2.1 == bt256.2.2.1 && (bt249.2.2.2.1 == bt256.2.2.2.1 && (bt249.2.2.2.2.1 == (a0_2 == 3)))))) = true then (some false) else (some false)) else (some false)) else (some false)) else (some false)))) else ((frisketlaw19_alive.f).bind fun t266 => (if t266 = true then (if bt246.2.2 = 0 then (if bt249.2.2.2.2.2 = 0 then (if (bt249.1 == bt256.1 && (bt249.2.1 == bt256.2.1 && (bt249.2.2.1 == bt256.2.2.1 && (bt249.2.2.2.1 == bt256.2.2.2.1 && (bt249.2.2.2.2.1 == (a0_2 == 3)))))) = true then (some false) else (some false)) else (some false)) else (some false)) else (some false)))) else ((frisketlaw19_alive.f).bind fun t267 => (if t267 = true then (if bt246.2.2 = 0 then (if bt249.2.2.2.2.2 = 0 then (if (bt249.1 == bt256.1 && (bt249.2.1 == bt256.2.1 && (bt249.2.2.1 == bt256.2.2.1 && (bt249.2.2.2.1 == bt256.2.2.2.1 && (bt249.2.2.2.2.1 == (a0_2 == 3)))))) = true then (some false) else (some false)) else (some false)) else (some false)) else (some false)))) else (if bt239.1 ≥ 0 then (if bt239.2.1 ≥ 0 then (if bt239.2.2.1 ≥ 1 then (if bt239.2.2.2.1 ≥ 1 then (if (wrap64 (bt239.1 + bt239.2.2.1)) ≤ bt246.1 then ((frisketlaw19_alive.f).bind fun t268 => (if t268 = true then (if bt246.2.2 = 0 then (if bt249.2.2.2.2.2 = 0 then (if (bt249.1 == bt256.1 && (bt249.2.1 == bt256.2.1 && (bt249.2.2.1 == bt256.2.2.1 && (bt249.2.2.2.1 == bt256.2.2.2.1 && (!bt249.2.2.2.2.1))))) = true then (if (wrap64 (bt239.2.1 + bt239.2.2.2.1)) ≤ bt246.2.1 then (if (wrap64 (bt239.2.2.1 * bt239.2.2.2.1)) = (wrap64 (a1_1 * a1_3)) then (some ((wrap64 (bt246.1 * bt246.2.1)) == (wrap64 (a0_0 * a0_1)))) else (some false)) else (some false)) else (some false)) else (some false)) else (some false)) else (some false))) else ((frisketlaw19_alive.f).bind fun t269 => (if t269 = true then (if bt246.2.2 = 0 then (if bt249.2.2.2.2.2 = 0 then (if (bt249.1 == bt256.1 && (bt249.2.1 == bt256.2.1 && (bt249.2.2.1 == bt256.2.2.1 && (bt249.2.2.2.1 == bt256.2.2.2.1 && (!bt249.2.2.2.2.1))))) = true then (some false) else (some false)) else (some false)) else (some false)) else (some false)))) else ((frisketlaw19_alive.f).bind fun t270 => (if t270 = true then (if bt246.2.2 = 0 then (if bt249.2.2.2.2.2 = 0 then (if (bt249.1 == bt256.1 && (bt249.2.1 == bt256.2.1 && (bt249.2.2.1 == bt256.2.2.1 && (bt249.2.2.2.1 == bt256.2.2.2.1 && (!bt249.2.2.2.2.1))))) = true then (some false) else (some false)) else (some false)) else (some false)) else (some false)))) else ((frisketlaw19_alive.f).bind fun t271 => (if t271 = true then (if bt246.2.2 = 0 then (if bt249.2.2.2.2.2 = 0 then (if (bt249.1 == bt256.1 && (bt249.2.1 == bt256.2.1 && (bt249.2.2.1 == bt256.2.2.1 && (bt249.2.2.2.1 == bt256.2.2.2.1 && (!bt249.2.2.2.2.1))))) = true then (some false) else (some false)) else (some false)) else (some false)) else (some false)))) else ((frisketlaw19_alive.f).bind fun t272 => (if t272 = true then (if bt246.2.2 = 0 then (if bt249.2.2.2.2.2 = 0 then (if (bt249.1 == bt256.1 && (bt249.2.1 == bt256.2.1 && (bt249.2.2.1 == bt256.2.2.1 && (bt249.2.2.2.1 == bt256.2.2.2.1 && (!bt249.2.2.2.2.1))))) = true then (some false) else (some false)) else (some false)) else (some false)) else (some false)))) else ((frisketlaw19_alive.f).bind fun t273 => (if t273 = true then (if bt246.2.2 = 0 then (if bt249.2.2.2.2.2 = 0 then (if (bt249.1 == bt256.1 && (bt249.2.1 == bt256.2.1 && (bt249.2.2.1 == bt256.2.2.1 && (bt249.2.2.2.1 == bt256.2.2.2.1 && (!bt249.2.2.2.2.1))))) = true then (some false) else (some false)) else (some false)) else (some false)) else (some false)))))))) else ((frisketlaw19_alive.f).bind fun t245 => (some t245))))
def frisketlaw19_PlaceRound.T1 : Bool × List (List Nat × List Nat) := (true, [([], []), ([0], [0]), ([], []), ([2], [2]), ([], []), ([4], [4]), ([1, 3, 5, 5], [1, 3, 5]), ([6], [6]), ([7], [7]), ([7], [7]), ([], []), ([10, 8, 6, 0, 1, 2, 3, 4, 5, 6, 7, 8, 10], [8, 10]), ([9, 11, 0, 1, 2, 3, 4, 5, 6, 7, 8, 9, 10, 11], [9])])
def frisketlaw19_PlaceRound.B1 : List Nat := [0, 1, 0, 4, 0, 16, 63, 127, 255, 255, 0, 1535, 4095]
theorem frisketlaw19_PlaceRound.tab1 : rtab .any (opsOf Try.f5 1) = frisketlaw19_PlaceRound.T1 := by kernel_rfl
theorem frisketlaw19_PlaceRound.bits1 : waitsOk frisketlaw19_PlaceRound.T1.2 frisketlaw19_PlaceRound.B1 = true := by kernel_rfl
set_option maxHeartbeats 8000000 in
set_option maxRecDepth 100000 in
theorem frisketlaw19_PlaceRound.calls (a0_0 : Int) (a0_1 : Int) (a0_2 : Int) (a1_0 : Int) (a1_1 : Int) (a1_2 : Int) (a1_3 : Int) (a1_4 : Bool) (r : Bool) (w : World) (hrt : r = true) (h : frisketlaw19_PlaceRound.f a0_0 a0_1 a0_2 a1_0 a1_1 a1_2 a1_3 a1_4 = some r) :
  Calls Try.prog 5 #[.agg #[.int .i64 a0_0, .int .i64 a0_1, .int .i64 a0_2], .agg #[.int .i64 a1_0, .int .i64 a1_1, .int .i64 a1_2, .int .i64 a1_3, .bool a1_4]] w fun e w' => e = .returned (.bool r) ∧ Below w.heap.size w w' := by
 have hu26 := Try.underlying26
 have hu28 := Try.underlying28
 have hu23 := Try.underlying23
 have hu33 := Try.underlying33
 have hu36 := Try.underlying36
 have HB := Aside0.mk (Below.refl w.heap.size w)
 have HRT := Aside0.mk hrt
 clear hrt
 have H : ((frisketlaw19_box.f a1_0 a1_1 a1_2 a1_3 a1_4).bind fun bt234 => ((place_Cells.f a0_0 a0_1 a0_2 bt234.1 bt234.2.1 bt234.2.2.1 bt234.2.2.2.1 bt234.2.2.2.2).bind fun bt239 => (if bt239.2.2.2.2 = 0 then ((place_Sides.f a0_0 a0_1 a0_2).bind fun bt246 => ((place_Of.f a0_0 a0_1 a0_2 bt239.1 bt239.2.1 bt239.2.2.1 bt239.2.2.2.1 a1_4).bind fun bt249 => ((frisketlaw19_box.f a1_0 a1_1 a1_2 a1_3 a1_4).bind fun bt256 => (if a1_4 = true then (if bt239.1 ≥ 0 then (if bt239.2.1 ≥ 0 then (if bt239.2.2.1 ≥ 1 then (if bt239.2.2.2.1 ≥ 1 then (if (wrap64 (bt239.1 + bt239.2.2.1)) ≤ bt246.1 then ((frisketlaw19_alive.f).bind fun t262 => (if t262 = true then (if bt246.2.2 = 0 then (if bt249.2.2.2.2.2 = 0 then (if (bt249.1 == bt256.1 && (bt249.2.1 == bt256.2.1 && (bt249.2.2.1 == bt256.2.2.1 && (bt249.2.2.2.1 == bt256.2.2.2.1 && (bt249.2.2.2.2.1 == (a0_2 == 3)))))) = true then (if (wrap64 (bt239.2.1 + bt239.2.2.2.1)) ≤ bt246.2.1 then (if (wrap64 (bt239.2.2.1 * bt239.2.2.2.1)) = (wrap64 (a1_1 * a1_3)) then (some ((wrap64 (bt246.1 * bt246.2.1)) == (wrap64 (a0_0 * a0_1)))) else (some false)) else (some false)) else (some false)) else (some false)) else (some false)) else (some false))) else ((frisketlaw19_alive.f).bind fun t263 => (if t263 = true then (if bt246.2.2 = 0 then (if bt249.2.2.2.2.2 = 0 then (if (bt249.1 == bt256.1 && (bt249.2.1 == bt256.2.1 && (bt249.2.2.1 == bt256.2.2.1 && (bt249.2.2.2.1 == bt256.2.2.2.1 && (bt249.2.2.2.2.1 == (a0_2 == 3)))))) = true then (some false) else (some false)) else (some false)) else (some false)) else (some false)))) else ((frisketlaw19_alive.f).bind fun t264 => (if t264 = true then (if bt246.2.2 = 0 then (if bt249.2.2.2.2.2 = 0 then (if (bt249.1 == bt256.1 && (bt249.2.1 == bt256.2.1 && (bt249.2.2.1 == bt256.2.2.1 && (bt249.2.2.2.1 == bt256.2.2.2.1 && (bt249.2.2.2.2.1 == (a0_2 == 3)))))) = true then (some false) else (some false)) else (some false)) else (some false)) else (some false)))) else ((frisketlaw19_alive.f).bind fun t265 => (if t265 = true then (if bt246.2.2 = 0 then (if bt249.2.2.2.2.2 = 0 then (if (bt249.1 == bt256.1 && (bt249.2.1 == bt256.2.1 && (bt249.2.2.1 == bt256.2.2.1 && (bt249.2.2.2.1 == bt256.2.2.2.1 && (bt249.2.2.2.2.1 == (a0_2 == 3)))))) = true then (some false) else (some false)) else (some false)) else (some false)) else (some false)))) else ((frisketlaw19_alive.f).bind fun t266 => (if t266 = true then (if bt246.2.2 = 0 then (if bt249.2.2.2.2.2 = 0 then (if (bt249.1 == bt256.1 && (bt249.2.1 == bt256.2.1 && (bt249.2.2.1 == bt256.2.2.1 && (bt249.2.2.2.1 == bt256.2.2.2.1 && (bt249.2.2.2.2.1 == (a0_2 == 3)))))) = true then (some false) else (some false)) else (some false)) else (some false)) else (some false)))) else ((frisketlaw19_alive.f).bind fun t267 => (if t267 = true then (if bt246.2.2 = 0 then (if bt249.2.2.2.2.2 = 0 then (if (bt249.1 == bt256.1 && (bt249.2.1 == bt256.2.1 && (bt249.2.2.1 == bt256.2.2.1 && (bt249.2.2.2.1 == bt256.2.2.2.1 && (bt249.2.2.2.2.1 == (a0_2 == 3)))))) = true then (some false) else (some false)) else (some false)) else (some false)) else (some false)))) else (if bt239.1 ≥ 0 then (if bt239.2.1 ≥ 0 then (if bt239.2.2.1 ≥ 1 then (if bt239.2.2.2.1 ≥ 1 then (if (wrap64 (bt239.1 + bt239.2.2.1)) ≤ bt246.1 then ((frisketlaw19_alive.f).bind fun t268 => (if t268 = true then (if bt246.2.2 = 0 then (if bt249.2.2.2.2.2 = 0 then (if (bt249.1 == bt256.1 && (bt249.2.1 == bt256.2.1 && (bt249.2.2.1 == bt256.2.2.1 && (bt249.2.2.2.1 == bt256.2.2.2.1 && (!bt249.2.2.2.2.1))))) = true then (if (wrap64 (bt239.2.1 + bt239.2.2.2.1)) ≤ bt246.2.1 then (if (wrap64 (bt239.2.2.1 * bt239.2.2.2.1)) = (wrap64 (a1_1 * a1_3)) then (some ((wrap64 (bt246.1 * bt246.2.1)) == (wrap64 (a0_0 * a0_1)))) else (some false)) else (some false)) else (some false)) else (some false)) else (some false)) else (some false))) else ((frisketlaw19_alive.f).bind fun t269 => (if t269 = true then (if bt246.2.2 = 0 then (if bt249.2.2.2.2.2 = 0 then (if (bt249.1 == bt256.1 && (bt249.2.1 == bt256.2.1 && (bt249.2.2.1 == bt256.2.2.1 && (bt249.2.2.2.1 == bt256.2.2.2.1 && (!bt249.2.2.2.2.1))))) = true then (some false) else (some false)) else (some false)) else (some false)) else (some false)))) else ((frisketlaw19_alive.f).bind fun t270 => (if t270 = true then (if bt246.2.2 = 0 then (if bt249.2.2.2.2.2 = 0 then (if (bt249.1 == bt256.1 && (bt249.2.1 == bt256.2.1 && (bt249.2.2.1 == bt256.2.2.1 && (bt249.2.2.2.1 == bt256.2.2.2.1 && (!bt249.2.2.2.2.1))))) = true then (some false) else (some false)) else (some false)) else (some false)) else (some false)))) else ((frisketlaw19_alive.f).bind fun t271 => (if t271 = true then (if bt246.2.2 = 0 then (if bt249.2.2.2.2.2 = 0 then (if (bt249.1 == bt256.1 && (bt249.2.1 == bt256.2.1 && (bt249.2.2.1 == bt256.2.2.1 && (bt249.2.2.2.1 == bt256.2.2.2.1 && (!bt249.2.2.2.2.1))))) = true then (some false) else (some false)) else (some false)) else (some false)) else (some false)))) else ((frisketlaw19_alive.f).bind fun t272 => (if t272 = true then (if bt246.2.2 = 0 then (if bt249.2.2.2.2.2 = 0 then (if (bt249.1 == bt256.1 && (bt249.2.1 == bt256.2.1 && (bt249.2.2.1 == bt256.2.2.1 && (bt249.2.2.2.1 == bt256.2.2.2.1 && (!bt249.2.2.2.2.1))))) = true then (some false) else (some false)) else (some false)) else (some false)) else (some false)))) else ((frisketlaw19_alive.f).bind fun t273 => (if t273 = true then (if bt246.2.2 = 0 then (if bt249.2.2.2.2.2 = 0 then (if (bt249.1 == bt256.1 && (bt249.2.1 == bt256.2.1 && (bt249.2.2.1 == bt256.2.2.1 && (bt249.2.2.2.1 == bt256.2.2.2.1 && (!bt249.2.2.2.2.1))))) = true then (some false) else (some false)) else (some false)) else (some false)) else (some false)))))))) else ((frisketlaw19_alive.f).bind fun t245 => (some t245))))) = some r := h
 clear h
 replace H := Option.bind_eq_some_iff.mp H
 obtain ⟨⟨t234, t235, t236, t237, t238⟩, A30, H⟩ := H
 replace H : ((place_Cells.f a0_0 a0_1 a0_2 t234 t235 t236 t237 t238).bind fun bt239 => (if bt239.2.2.2.2 = 0 then ((place_Sides.f a0_0 a0_1 a0_2).bind fun bt246 => ((place_Of.f a0_0 a0_1 a0_2 bt239.1 bt239.2.1 bt239.2.2.1 bt239.2.2.2.1 a1_4).bind fun bt249 => ((frisketlaw19_box.f a1_0 a1_1 a1_2 a1_3 a1_4).bind fun bt256 => (if a1_4 = true then (if bt239.1 ≥ 0 then (if bt239.2.1 ≥ 0 then (if bt239.2.2.1 ≥ 1 then (if bt239.2.2.2.1 ≥ 1 then (if (wrap64 (bt239.1 + bt239.2.2.1)) ≤ bt246.1 then ((frisketlaw19_alive.f).bind fun t262 => (if t262 = true then (if bt246.2.2 = 0 then (if bt249.2.2.2.2.2 = 0 then (if (bt249.1 == bt256.1 && (bt249.2.1 == bt256.2.1 && (bt249.2.2.1 == bt256.2.2.1 && (bt249.2.2.2.1 == bt256.2.2.2.1 && (bt249.2.2.2.2.1 == (a0_2 == 3)))))) = true then (if (wrap64 (bt239.2.1 + bt239.2.2.2.1)) ≤ bt246.2.1 then (if (wrap64 (bt239.2.2.1 * bt239.2.2.2.1)) = (wrap64 (a1_1 * a1_3)) then (some ((wrap64 (bt246.1 * bt246.2.1)) == (wrap64 (a0_0 * a0_1)))) else (some false)) else (some false)) else (some false)) else (some false)) else (some false)) else (some false))) else ((frisketlaw19_alive.f).bind fun t263 => (if t263 = true then (if bt246.2.2 = 0 then (if bt249.2.2.2.2.2 = 0 then (if (bt249.1 == bt256.1 && (bt249.2.1 == bt256.2.1 && (bt249.2.2.1 == bt256.2.2.1 && (bt249.2.2.2.1 == bt256.2.2.2.1 && (bt249.2.2.2.2.1 == (a0_2 == 3)))))) = true then (some false) else (some false)) else (some false)) else (some false)) else (some false)))) else ((frisketlaw19_alive.f).bind fun t264 => (if t264 = true then (if bt246.2.2 = 0 then (if bt249.2.2.2.2.2 = 0 then (if (bt249.1 == bt256.1 && (bt249.2.1 == bt256.2.1 && (bt249.2.2.1 == bt256.2.2.1 && (bt249.2.2.2.1 == bt256.2.2.2.1 && (bt249.2.2.2.2.1 == (a0_2 == 3)))))) = true then (some false) else (some false)) else (some false)) else (some false)) else (some false)))) else ((frisketlaw19_alive.f).bind fun t265 => (if t265 = true then (if bt246.2.2 = 0 then (if bt249.2.2.2.2.2 = 0 then (if (bt249.1 == bt256.1 && (bt249.2.1 == bt256.2.1 && (bt249.2.2.1 == bt256.2.2.1 && (bt249.2.2.2.1 == bt256.2.2.2.1 && (bt249.2.2.2.2.1 == (a0_2 == 3)))))) = true then (some false) else (some false)) else (some false)) else (some false)) else (some false)))) else ((frisketlaw19_alive.f).bind fun t266 => (if t266 = true then (if bt246.2.2 = 0 then (if bt249.2.2.2.2.2 = 0 then (if (bt249.1 == bt256.1 && (bt249.2.1 == bt256.2.1 && (bt249.2.2.1 == bt256.2.2.1 && (bt249.2.2.2.1 == bt256.2.2.2.1 && (bt249.2.2.2.2.1 == (a0_2 == 3)))))) = true then (some false) else (some false)) else (some false)) else (some false)) else (some false)))) else ((frisketlaw19_alive.f).bind fun t267 => (if t267 = true then (if bt246.2.2 = 0 then (if bt249.2.2.2.2.2 = 0 then (if (bt249.1 == bt256.1 && (bt249.2.1 == bt256.2.1 && (bt249.2.2.1 == bt256.2.2.1 && (bt249.2.2.2.1 == bt256.2.2.2.1 && (bt249.2.2.2.2.1 == (a0_2 == 3)))))) = true then (some false) else (some false)) else (some false)) else (some false)) else (some false)))) else (if bt239.1 ≥ 0 then (if bt239.2.1 ≥ 0 then (if bt239.2.2.1 ≥ 1 then (if bt239.2.2.2.1 ≥ 1 then (if (wrap64 (bt239.1 + bt239.2.2.1)) ≤ bt246.1 then ((frisketlaw19_alive.f).bind fun t268 => (if t268 = true then (if bt246.2.2 = 0 then (if bt249.2.2.2.2.2 = 0 then (if (bt249.1 == bt256.1 && (bt249.2.1 == bt256.2.1 && (bt249.2.2.1 == bt256.2.2.1 && (bt249.2.2.2.1 == bt256.2.2.2.1 && (!bt249.2.2.2.2.1))))) = true then (if (wrap64 (bt239.2.1 + bt239.2.2.2.1)) ≤ bt246.2.1 then (if (wrap64 (bt239.2.2.1 * bt239.2.2.2.1)) = (wrap64 (a1_1 * a1_3)) then (some ((wrap64 (bt246.1 * bt246.2.1)) == (wrap64 (a0_0 * a0_1)))) else (some false)) else (some false)) else (some false)) else (some false)) else (some false)) else (some false))) else ((frisketlaw19_alive.f).bind fun t269 => (if t269 = true then (if bt246.2.2 = 0 then (if bt249.2.2.2.2.2 = 0 then (if (bt249.1 == bt256.1 && (bt249.2.1 == bt256.2.1 && (bt249.2.2.1 == bt256.2.2.1 && (bt249.2.2.2.1 == bt256.2.2.2.1 && (!bt249.2.2.2.2.1))))) = true then (some false) else (some false)) else (some false)) else (some false)) else (some false)))) else ((frisketlaw19_alive.f).bind fun t270 => (if t270 = true then (if bt246.2.2 = 0 then (if bt249.2.2.2.2.2 = 0 then (if (bt249.1 == bt256.1 && (bt249.2.1 == bt256.2.1 && (bt249.2.2.1 == bt256.2.2.1 && (bt249.2.2.2.1 == bt256.2.2.2.1 && (!bt249.2.2.2.2.1))))) = true then (some false) else (some false)) else (some false)) else (some false)) else (some false)))) else ((frisketlaw19_alive.f).bind fun t271 => (if t271 = true then (if bt246.2.2 = 0 then (if bt249.2.2.2.2.2 = 0 then (if (bt249.1 == bt256.1 && (bt249.2.1 == bt256.2.1 && (bt249.2.2.1 == bt256.2.2.1 && (bt249.2.2.2.1 == bt256.2.2.2.1 && (!bt249.2.2.2.2.1))))) = true then (some false) else (some false)) else (some false)) else (some false)) else (some false)))) else ((frisketlaw19_alive.f).bind fun t272 => (if t272 = true then (if bt246.2.2 = 0 then (if bt249.2.2.2.2.2 = 0 then (if (bt249.1 == bt256.1 && (bt249.2.1 == bt256.2.1 && (bt249.2.2.1 == bt256.2.2.1 && (bt249.2.2.2.1 == bt256.2.2.2.1 && (!bt249.2.2.2.2.1))))) = true then (some false) else (some false)) else (some false)) else (some false)) else (some false)))) else ((frisketlaw19_alive.f).bind fun t273 => (if t273 = true then (if bt246.2.2 = 0 then (if bt249.2.2.2.2.2 = 0 then (if (bt249.1 == bt256.1 && (bt249.2.1 == bt256.2.1 && (bt249.2.2.1 == bt256.2.2.1 && (bt249.2.2.2.1 == bt256.2.2.2.1 && (!bt249.2.2.2.2.1))))) = true then (some false) else (some false)) else (some false)) else (some false)) else (some false)))))))) else ((frisketlaw19_alive.f).bind fun t245 => (some t245)))) = some r := H
 have A3 := Aside0.mk A30
 clear A30
 replace H := Option.bind_eq_some_iff.mp H
 obtain ⟨⟨t239, t240, t241, t242, t243⟩, A40, H⟩ := H
 replace H : (if t243 = 0 then ((place_Sides.f a0_0 a0_1 a0_2).bind fun bt246 => ((place_Of.f a0_0 a0_1 a0_2 t239 t240 t241 t242 a1_4).bind fun bt249 => ((frisketlaw19_box.f a1_0 a1_1 a1_2 a1_3 a1_4).bind fun bt256 => (if a1_4 = true then (if t239 ≥ 0 then (if t240 ≥ 0 then (if t241 ≥ 1 then (if t242 ≥ 1 then (if (wrap64 (t239 + t241)) ≤ bt246.1 then ((frisketlaw19_alive.f).bind fun t262 => (if t262 = true then (if bt246.2.2 = 0 then (if bt249.2.2.2.2.2 = 0 then (if (bt249.1 == bt256.1 && (bt249.2.1 == bt256.2.1 && (bt249.2.2.1 == bt256.2.2.1 && (bt249.2.2.2.1 == bt256.2.2.2.1 && (bt249.2.2.2.2.1 == (a0_2 == 3)))))) = true then (if (wrap64 (t240 + t242)) ≤ bt246.2.1 then (if (wrap64 (t241 * t242)) = (wrap64 (a1_1 * a1_3)) then (some ((wrap64 (bt246.1 * bt246.2.1)) == (wrap64 (a0_0 * a0_1)))) else (some false)) else (some false)) else (some false)) else (some false)) else (some false)) else (some false))) else ((frisketlaw19_alive.f).bind fun t263 => (if t263 = true then (if bt246.2.2 = 0 then (if bt249.2.2.2.2.2 = 0 then (if (bt249.1 == bt256.1 && (bt249.2.1 == bt256.2.1 && (bt249.2.2.1 == bt256.2.2.1 && (bt249.2.2.2.1 == bt256.2.2.2.1 && (bt249.2.2.2.2.1 == (a0_2 == 3)))))) = true then (some false) else (some false)) else (some false)) else (some false)) else (some false)))) else ((frisketlaw19_alive.f).bind fun t264 => (if t264 = true then (if bt246.2.2 = 0 then (if bt249.2.2.2.2.2 = 0 then (if (bt249.1 == bt256.1 && (bt249.2.1 == bt256.2.1 && (bt249.2.2.1 == bt256.2.2.1 && (bt249.2.2.2.1 == bt256.2.2.2.1 && (bt249.2.2.2.2.1 == (a0_2 == 3)))))) = true then (some false) else (some false)) else (some false)) else (some false)) else (some false)))) else ((frisketlaw19_alive.f).bind fun t265 => (if t265 = true then (if bt246.2.2 = 0 then (if bt249.2.2.2.2.2 = 0 then (if (bt249.1 == bt256.1 && (bt249.2.1 == bt256.2.1 && (bt249.2.2.1 == bt256.2.2.1 && (bt249.2.2.2.1 == bt256.2.2.2.1 && (bt249.2.2.2.2.1 == (a0_2 == 3)))))) = true then (some false) else (some false)) else (some false)) else (some false)) else (some false)))) else ((frisketlaw19_alive.f).bind fun t266 => (if t266 = true then (if bt246.2.2 = 0 then (if bt249.2.2.2.2.2 = 0 then (if (bt249.1 == bt256.1 && (bt249.2.1 == bt256.2.1 && (bt249.2.2.1 == bt256.2.2.1 && (bt249.2.2.2.1 == bt256.2.2.2.1 && (bt249.2.2.2.2.1 == (a0_2 == 3)))))) = true then (some false) else (some false)) else (some false)) else (some false)) else (some false)))) else ((frisketlaw19_alive.f).bind fun t267 => (if t267 = true then (if bt246.2.2 = 0 then (if bt249.2.2.2.2.2 = 0 then (if (bt249.1 == bt256.1 && (bt249.2.1 == bt256.2.1 && (bt249.2.2.1 == bt256.2.2.1 && (bt249.2.2.2.1 == bt256.2.2.2.1 && (bt249.2.2.2.2.1 == (a0_2 == 3)))))) = true then (some false) else (some false)) else (some false)) else (some false)) else (some false)))) else (if t239 ≥ 0 then (if t240 ≥ 0 then (if t241 ≥ 1 then (if t242 ≥ 1 then (if (wrap64 (t239 + t241)) ≤ bt246.1 then ((frisketlaw19_alive.f).bind fun t268 => (if t268 = true then (if bt246.2.2 = 0 then (if bt249.2.2.2.2.2 = 0 then (if (bt249.1 == bt256.1 && (bt249.2.1 == bt256.2.1 && (bt249.2.2.1 == bt256.2.2.1 && (bt249.2.2.2.1 == bt256.2.2.2.1 && (!bt249.2.2.2.2.1))))) = true then (if (wrap64 (t240 + t242)) ≤ bt246.2.1 then (if (wrap64 (t241 * t242)) = (wrap64 (a1_1 * a1_3)) then (some ((wrap64 (bt246.1 * bt246.2.1)) == (wrap64 (a0_0 * a0_1)))) else (some false)) else (some false)) else (some false)) else (some false)) else (some false)) else (some false))) else ((frisketlaw19_alive.f).bind fun t269 => (if t269 = true then (if bt246.2.2 = 0 then (if bt249.2.2.2.2.2 = 0 then (if (bt249.1 == bt256.1 && (bt249.2.1 == bt256.2.1 && (bt249.2.2.1 == bt256.2.2.1 && (bt249.2.2.2.1 == bt256.2.2.2.1 && (!bt249.2.2.2.2.1))))) = true then (some false) else (some false)) else (some false)) else (some false)) else (some false)))) else ((frisketlaw19_alive.f).bind fun t270 => (if t270 = true then (if bt246.2.2 = 0 then (if bt249.2.2.2.2.2 = 0 then (if (bt249.1 == bt256.1 && (bt249.2.1 == bt256.2.1 && (bt249.2.2.1 == bt256.2.2.1 && (bt249.2.2.2.1 == bt256.2.2.2.1 && (!bt249.2.2.2.2.1))))) = true then (some false) else (some false)) else (some false)) else (some false)) else (some false)))) else ((frisketlaw19_alive.f).bind fun t271 => (if t271 = true then (if bt246.2.2 = 0 then (if bt249.2.2.2.2.2 = 0 then (if (bt249.1 == bt256.1 && (bt249.2.1 == bt256.2.1 && (bt249.2.2.1 == bt256.2.2.1 && (bt249.2.2.2.1 == bt256.2.2.2.1 && (!bt249.2.2.2.2.1))))) = true then (some false) else (some false)) else (some false)) else (some false)) else (some false)))) else ((frisketlaw19_alive.f).bind fun t272 => (if t272 = true then (if bt246.2.2 = 0 then (if bt249.2.2.2.2.2 = 0 then (if (bt249.1 == bt256.1 && (bt249.2.1 == bt256.2.1 && (bt249.2.2.1 == bt256.2.2.1 && (bt249.2.2.2.1 == bt256.2.2.2.1 && (!bt249.2.2.2.2.1))))) = true then (some false) else (some false)) else (some false)) else (some false)) else (some false)))) else ((frisketlaw19_alive.f).bind fun t273 => (if t273 = true then (if bt246.2.2 = 0 then (if bt249.2.2.2.2.2 = 0 then (if (bt249.1 == bt256.1 && (bt249.2.1 == bt256.2.1 && (bt249.2.2.1 == bt256.2.2.1 && (bt249.2.2.2.1 == bt256.2.2.2.1 && (!bt249.2.2.2.2.1))))) = true then (some false) else (some false)) else (some false)) else (some false)) else (some false)))))))) else ((frisketlaw19_alive.f).bind fun t245 => (some t245))) = some r := H
 have A4 := Aside0.mk A40
 clear A40
 by_cases c5 : t243 = 0
 ·rw [if_pos c5] at H
  have c5b0 : (t243 == 0) = true := beq_iff_eq.mpr c5
  have c5b1 : (t243 != 0) = false := bne_eq_false_iff_eq.mpr c5
  clear c5
  replace H := Option.bind_eq_some_iff.mp H
  obtain ⟨⟨t246, t247, t248⟩, A60, H⟩ := H
  replace H : ((place_Of.f a0_0 a0_1 a0_2 t239 t240 t241 t242 a1_4).bind fun bt249 => ((frisketlaw19_box.f a1_0 a1_1 a1_2 a1_3 a1_4).bind fun bt256 => (if a1_4 = true then (if t239 ≥ 0 then (if t240 ≥ 0 then (if t241 ≥ 1 then (if t242 ≥ 1 then (if (wrap64 (t239 + t241)) ≤ t246 then ((frisketlaw19_alive.f).bind fun t262 => (if t262 = true then (if t248 = 0 then (if bt249.2.2.2.2.2 = 0 then (if (bt249.1 == bt256.1 && (bt249.2.1 == bt256.2.1 && (bt249.2.2.1 == bt256.2.2.1 && (bt249.2.2.2.1 == bt256.2.2.2.1 && (bt249.2.2.2.2.1 == (a0_2 == 3)))))) = true then (if (wrap64 (t240 + t242)) ≤ t247 then (if (wrap64 (t241 * t242)) = (wrap64 (a1_1 * a1_3)) then (some ((wrap64 (t246 * t247)) == (wrap64 (a0_0 * a0_1)))) else (some false)) else (some false)) else (some false)) else (some false)) else (some false)) else (some false))) else ((frisketlaw19_alive.f).bind fun t263 => (if t263 = true then (if t248 = 0 then (if bt249.2.2.2.2.2 = 0 then (if (bt249.1 == bt256.1 && (bt249.2.1 == bt256.2.1 && (bt249.2.2.1 == bt256.2.2.1 && (bt249.2.2.2.1 == bt256.2.2.2.1 && (bt249.2.2.2.2.1 == (a0_2 == 3)))))) = true then (some false) else (some false)) else (some false)) else (some false)) else (some false)))) else ((frisketlaw19_alive.f).bind fun t264 => (if t264 = true then (if t248 = 0 then (if bt249.2.2.2.2.2 = 0 then (if (bt249.1 == bt256.1 && (bt249.2.1 == bt256.2.1 && (bt249.2.2.1 == bt256.2.2.1 && (bt249.2.2.2.1 == bt256.2.2.2.1 && (bt249.2.2.2.2.1 == (a0_2 == 3)))))) = true then (some false) else (some false)) else (some false)) else (some false)) else (some false)))) else ((frisketlaw19_alive.f).bind fun t265 => (if t265 = true then (if t248 = 0 then (if bt249.2.2.2.2.2 = 0 then (if (bt249.1 == bt256.1 && (bt249.2.1 == bt256.2.1 && (bt249.2.2.1 == bt256.2.2.1 && (bt249.2.2.2.1 == bt256.2.2.2.1 && (bt249.2.2.2.2.1 == (a0_2 == 3)))))) = true then (some false) else (some false)) else (some false)) else (some false)) else (some false)))) else ((frisketlaw19_alive.f).bind fun t266 => (if t266 = true then (if t248 = 0 then (if bt249.2.2.2.2.2 = 0 then (if (bt249.1 == bt256.1 && (bt249.2.1 == bt256.2.1 && (bt249.2.2.1 == bt256.2.2.1 && (bt249.2.2.2.1 == bt256.2.2.2.1 && (bt249.2.2.2.2.1 == (a0_2 == 3)))))) = true then (some false) else (some false)) else (some false)) else (some false)) else (some false)))) else ((frisketlaw19_alive.f).bind fun t267 => (if t267 = true then (if t248 = 0 then (if bt249.2.2.2.2.2 = 0 then (if (bt249.1 == bt256.1 && (bt249.2.1 == bt256.2.1 && (bt249.2.2.1 == bt256.2.2.1 && (bt249.2.2.2.1 == bt256.2.2.2.1 && (bt249.2.2.2.2.1 == (a0_2 == 3)))))) = true then (some false) else (some false)) else (some false)) else (some false)) else (some false)))) else (if t239 ≥ 0 then (if t240 ≥ 0 then (if t241 ≥ 1 then (if t242 ≥ 1 then (if (wrap64 (t239 + t241)) ≤ t246 then ((frisketlaw19_alive.f).bind fun t268 => (if t268 = true then (if t248 = 0 then (if bt249.2.2.2.2.2 = 0 then (if (bt249.1 == bt256.1 && (bt249.2.1 == bt256.2.1 && (bt249.2.2.1 == bt256.2.2.1 && (bt249.2.2.2.1 == bt256.2.2.2.1 && (!bt249.2.2.2.2.1))))) = true then (if (wrap64 (t240 + t242)) ≤ t247 then (if (wrap64 (t241 * t242)) = (wrap64 (a1_1 * a1_3)) then (some ((wrap64 (t246 * t247)) == (wrap64 (a0_0 * a0_1)))) else (some false)) else (some false)) else (some false)) else (some false)) else (some false)) else (some false))) else ((frisketlaw19_alive.f).bind fun t269 => (if t269 = true then (if t248 = 0 then (if bt249.2.2.2.2.2 = 0 then (if (bt249.1 == bt256.1 && (bt249.2.1 == bt256.2.1 && (bt249.2.2.1 == bt256.2.2.1 && (bt249.2.2.2.1 == bt256.2.2.2.1 && (!bt249.2.2.2.2.1))))) = true then (some false) else (some false)) else (some false)) else (some false)) else (some false)))) else ((frisketlaw19_alive.f).bind fun t270 => (if t270 = true then (if t248 = 0 then (if bt249.2.2.2.2.2 = 0 then (if (bt249.1 == bt256.1 && (bt249.2.1 == bt256.2.1 && (bt249.2.2.1 == bt256.2.2.1 && (bt249.2.2.2.1 == bt256.2.2.2.1 && (!bt249.2.2.2.2.1))))) = true then (some false) else (some false)) else (some false)) else (some false)) else (some false)))) else ((frisketlaw19_alive.f).bind fun t271 => (if t271 = true then (if t248 = 0 then (if bt249.2.2.2.2.2 = 0 then (if (bt249.1 == bt256.1 && (bt249.2.1 == bt256.2.1 && (bt249.2.2.1 == bt256.2.2.1 && (bt249.2.2.2.1 == bt256.2.2.2.1 && (!bt249.2.2.2.2.1))))) = true then (some false) else (some false)) else (some false)) else (some false)) else (some false)))) else ((frisketlaw19_alive.f).bind fun t272 => (if t272 = true then (if t248 = 0 then (if bt249.2.2.2.2.2 = 0 then (if (bt249.1 == bt256.1 && (bt249.2.1 == bt256.2.1 && (bt249.2.2.1 == bt256.2.2.1 && (bt249.2.2.2.1 == bt256.2.2.2.1 && (!bt249.2.2.2.2.1))))) = true then (some false) else (some false)) else (some false)) else (some false)) else (some false)))) else ((frisketlaw19_alive.f).bind fun t273 => (if t273 = true then (if t248 = 0 then (if bt249.2.2.2.2.2 = 0 then (if (bt249.1 == bt256.1 && (bt249.2.1 == bt256.2.1 && (bt249.2.2.1 == bt256.2.2.1 && (bt249.2.2.2.1 == bt256.2.2.2.1 && (!bt249.2.2.2.2.1))))) = true then (some false) else (some false)) else (some false)) else (some false)) else (some false))))))) = some r := H
  have A6 := Aside0.mk A60
  clear A60
  replace H := Option.bind_eq_some_iff.mp H
  obtain ⟨⟨t249, t250, t251, t252, t253, t254⟩, A70, H⟩ := H
  replace H : ((frisketlaw19_box.f a1_0 a1_1 a1_2 a1_3 a1_4).bind fun bt256 => (if a1_4 = true then (if t239 ≥ 0 then (if t240 ≥ 0 then (if t241 ≥ 1 then (if t242 ≥ 1 then (if (wrap64 (t239 + t241)) ≤ t246 then ((frisketlaw19_alive.f).bind fun t262 => (if t262 = true then (if t248 = 0 then (if t254 = 0 then (if (t249 == bt256.1 && (t250 == bt256.2.1 && (t251 == bt256.2.2.1 && (t252 == bt256.2.2.2.1 && (t253 == (a0_2 == 3)))))) = true then (if (wrap64 (t240 + t242)) ≤ t247 then (if (wrap64 (t241 * t242)) = (wrap64 (a1_1 * a1_3)) then (some ((wrap64 (t246 * t247)) == (wrap64 (a0_0 * a0_1)))) else (some false)) else (some false)) else (some false)) else (some false)) else (some false)) else (some false))) else ((frisketlaw19_alive.f).bind fun t263 => (if t263 = true then (if t248 = 0 then (if t254 = 0 then (if (t249 == bt256.1 && (t250 == bt256.2.1 && (t251 == bt256.2.2.1 && (t252 == bt256.2.2.2.1 && (t253 == (a0_2 == 3)))))) = true then (some false) else (some false)) else (some false)) else (some false)) else (some false)))) else ((frisketlaw19_alive.f).bind fun t264 => (if t264 = true then (if t248 = 0 then (if t254 = 0 then (if (t249 == bt256.1 && (t250 == bt256.2.1 && (t251 == bt256.2.2.1 && (t252 == bt256.2.2.2.1 && (t253 == (a0_2 == 3)))))) = true then (some false) else (some false)) else (some false)) else (some false)) else (some false)))) else ((frisketlaw19_alive.f).bind fun t265 => (if t265 = true then (if t248 = 0 then (if t254 = 0 then (if (t249 == bt256.1 && (t250 == bt256.2.1 && (t251 == bt256.2.2.1 && (t252 == bt256.2.2.2.1 && (t253 == (a0_2 == 3)))))) = true then (some false) else (some false)) else (some false)) else (some false)) else (some false)))) else ((frisketlaw19_alive.f).bind fun t266 => (if t266 = true then (if t248 = 0 then (if t254 = 0 then (if (t249 == bt256.1 && (t250 == bt256.2.1 && (t251 == bt256.2.2.1 && (t252 == bt256.2.2.2.1 && (t253 == (a0_2 == 3)))))) = true then (some false) else (some false)) else (some false)) else (some false)) else (some false)))) else ((frisketlaw19_alive.f).bind fun t267 => (if t267 = true then (if t248 = 0 then (if t254 = 0 then (if (t249 == bt256.1 && (t250 == bt256.2.1 && (t251 == bt256.2.2.1 && (t252 == bt256.2.2.2.1 && (t253 == (a0_2 == 3)))))) = true then (some false) else (some false)) else (some false)) else (some false)) else (some false)))) else (if t239 ≥ 0 then (if t240 ≥ 0 then (if t241 ≥ 1 then (if t242 ≥ 1 then (if (wrap64 (t239 + t241)) ≤ t246 then ((frisketlaw19_alive.f).bind fun t268 => (if t268 = true then (if t248 = 0 then (if t254 = 0 then (if (t249 == bt256.1 && (t250 == bt256.2.1 && (t251 == bt256.2.2.1 && (t252 == bt256.2.2.2.1 && (!t253))))) = true then (if (wrap64 (t240 + t242)) ≤ t247 then (if (wrap64 (t241 * t242)) = (wrap64 (a1_1 * a1_3)) then (some ((wrap64 (t246 * t247)) == (wrap64 (a0_0 * a0_1)))) else (some false)) else (some false)) else (some false)) else (some false)) else (some false)) else (some false))) else ((frisketlaw19_alive.f).bind fun t269 => (if t269 = true then (if t248 = 0 then (if t254 = 0 then (if (t249 == bt256.1 && (t250 == bt256.2.1 && (t251 == bt256.2.2.1 && (t252 == bt256.2.2.2.1 && (!t253))))) = true then (some false) else (some false)) else (some false)) else (some false)) else (some false)))) else ((frisketlaw19_alive.f).bind fun t270 => (if t270 = true then (if t248 = 0 then (if t254 = 0 then (if (t249 == bt256.1 && (t250 == bt256.2.1 && (t251 == bt256.2.2.1 && (t252 == bt256.2.2.2.1 && (!t253))))) = true then (some false) else (some false)) else (some false)) else (some false)) else (some false)))) else ((frisketlaw19_alive.f).bind fun t271 => (if t271 = true then (if t248 = 0 then (if t254 = 0 then (if (t249 == bt256.1 && (t250 == bt256.2.1 && (t251 == bt256.2.2.1 && (t252 == bt256.2.2.2.1 && (!t253))))) = true then (some false) else (some false)) else (some false)) else (some false)) else (some false)))) else ((frisketlaw19_alive.f).bind fun t272 => (if t272 = true then (if t248 = 0 then (if t254 = 0 then (if (t249 == bt256.1 && (t250 == bt256.2.1 && (t251 == bt256.2.2.1 && (t252 == bt256.2.2.2.1 && (!t253))))) = true then (some false) else (some false)) else (some false)) else (some false)) else (some false)))) else ((frisketlaw19_alive.f).bind fun t273 => (if t273 = true then (if t248 = 0 then (if t254 = 0 then (if (t249 == bt256.1 && (t250 == bt256.2.1 && (t251 == bt256.2.2.1 && (t252 == bt256.2.2.2.1 && (!t253))))) = true then (some false) else (some false)) else (some false)) else (some false)) else (some false)))))) = some r := H
  have A7 := Aside0.mk A70
  clear A70
  replace H := Option.bind_eq_some_iff.mp H
  obtain ⟨⟨t256, t257, t258, t259, t260⟩, A80, H⟩ := H
  replace H : (if a1_4 = true then (if t239 ≥ 0 then (if t240 ≥ 0 then (if t241 ≥ 1 then (if t242 ≥ 1 then (if (wrap64 (t239 + t241)) ≤ t246 then ((frisketlaw19_alive.f).bind fun t262 => (if t262 = true then (if t248 = 0 then (if t254 = 0 then (if (t249 == t256 && (t250 == t257 && (t251 == t258 && (t252 == t259 && (t253 == (a0_2 == 3)))))) = true then (if (wrap64 (t240 + t242)) ≤ t247 then (if (wrap64 (t241 * t242)) = (wrap64 (a1_1 * a1_3)) then (some ((wrap64 (t246 * t247)) == (wrap64 (a0_0 * a0_1)))) else (some false)) else (some false)) else (some false)) else (some false)) else (some false)) else (some false))) else ((frisketlaw19_alive.f).bind fun t263 => (if t263 = true then (if t248 = 0 then (if t254 = 0 then (if (t249 == t256 && (t250 == t257 && (t251 == t258 && (t252 == t259 && (t253 == (a0_2 == 3)))))) = true then (some false) else (some false)) else (some false)) else (some false)) else (some false)))) else ((frisketlaw19_alive.f).bind fun t264 => (if t264 = true then (if t248 = 0 then (if t254 = 0 then (if (t249 == t256 && (t250 == t257 && (t251 == t258 && (t252 == t259 && (t253 == (a0_2 == 3)))))) = true then (some false) else (some false)) else (some false)) else (some false)) else (some false)))) else ((frisketlaw19_alive.f).bind fun t265 => (if t265 = true then (if t248 = 0 then (if t254 = 0 then (if (t249 == t256 && (t250 == t257 && (t251 == t258 && (t252 == t259 && (t253 == (a0_2 == 3)))))) = true then (some false) else (some false)) else (some false)) else (some false)) else (some false)))) else ((frisketlaw19_alive.f).bind fun t266 => (if t266 = true then (if t248 = 0 then (if t254 = 0 then (if (t249 == t256 && (t250 == t257 && (t251 == t258 && (t252 == t259 && (t253 == (a0_2 == 3)))))) = true then (some false) else (some false)) else (some false)) else (some false)) else (some false)))) else ((frisketlaw19_alive.f).bind fun t267 => (if t267 = true then (if t248 = 0 then (if t254 = 0 then (if (t249 == t256 && (t250 == t257 && (t251 == t258 && (t252 == t259 && (t253 == (a0_2 == 3)))))) = true then (some false) else (some false)) else (some false)) else (some false)) else (some false)))) else (if t239 ≥ 0 then (if t240 ≥ 0 then (if t241 ≥ 1 then (if t242 ≥ 1 then (if (wrap64 (t239 + t241)) ≤ t246 then ((frisketlaw19_alive.f).bind fun t268 => (if t268 = true then (if t248 = 0 then (if t254 = 0 then (if (t249 == t256 && (t250 == t257 && (t251 == t258 && (t252 == t259 && (!t253))))) = true then (if (wrap64 (t240 + t242)) ≤ t247 then (if (wrap64 (t241 * t242)) = (wrap64 (a1_1 * a1_3)) then (some ((wrap64 (t246 * t247)) == (wrap64 (a0_0 * a0_1)))) else (some false)) else (some false)) else (some false)) else (some false)) else (some false)) else (some false))) else ((frisketlaw19_alive.f).bind fun t269 => (if t269 = true then (if t248 = 0 then (if t254 = 0 then (if (t249 == t256 && (t250 == t257 && (t251 == t258 && (t252 == t259 && (!t253))))) = true then (some false) else (some false)) else (some false)) else (some false)) else (some false)))) else ((frisketlaw19_alive.f).bind fun t270 => (if t270 = true then (if t248 = 0 then (if t254 = 0 then (if (t249 == t256 && (t250 == t257 && (t251 == t258 && (t252 == t259 && (!t253))))) = true then (some false) else (some false)) else (some false)) else (some false)) else (some false)))) else ((frisketlaw19_alive.f).bind fun t271 => (if t271 = true then (if t248 = 0 then (if t254 = 0 then (if (t249 == t256 && (t250 == t257 && (t251 == t258 && (t252 == t259 && (!t253))))) = true then (some false) else (some false)) else (some false)) else (some false)) else (some false)))) else ((frisketlaw19_alive.f).bind fun t272 => (if t272 = true then (if t248 = 0 then (if t254 = 0 then (if (t249 == t256 && (t250 == t257 && (t251 == t258 && (t252 == t259 && (!t253))))) = true then (some false) else (some false)) else (some false)) else (some false)) else (some false)))) else ((frisketlaw19_alive.f).bind fun t273 => (if t273 = true then (if t248 = 0 then (if t254 = 0 then (if (t249 == t256 && (t250 == t257 && (t251 == t258 && (t252 == t259 && (!t253))))) = true then (some false) else (some false)) else (some false)) else (some false)) else (some false))))) = some r := H
  have A8 := Aside0.mk A80
  clear A80
  by_cases c9 : a1_4 = true
  ·subst c9
   have H1 : (if t239 ≥ 0 then (if t240 ≥ 0 then (if t241 ≥ 1 then (if t242 ≥ 1 then (if (wrap64 (t239 + t241)) ≤ t246 then ((frisketlaw19_alive.f).bind fun t262 => (if t262 = true then (if t248 = 0 then (if t254 = 0 then (if (t249 == t256 && (t250 == t257 && (t251 == t258 && (t252 == t259 && (t253 == (a0_2 == 3)))))) = true then (if (wrap64 (t240 + t242)) ≤ t247 then (if (wrap64 (t241 * t242)) = (wrap64 (a1_1 * a1_3)) then (some ((wrap64 (t246 * t247)) == (wrap64 (a0_0 * a0_1)))) else (some false)) else (some false)) else (some false)) else (some false)) else (some false)) else (some false))) else ((frisketlaw19_alive.f).bind fun t263 => (if t263 = true then (if t248 = 0 then (if t254 = 0 then (if (t249 == t256 && (t250 == t257 && (t251 == t258 && (t252 == t259 && (t253 == (a0_2 == 3)))))) = true then (some false) else (some false)) else (some false)) else (some false)) else (some false)))) else ((frisketlaw19_alive.f).bind fun t264 => (if t264 = true then (if t248 = 0 then (if t254 = 0 then (if (t249 == t256 && (t250 == t257 && (t251 == t258 && (t252 == t259 && (t253 == (a0_2 == 3)))))) = true then (some false) else (some false)) else (some false)) else (some false)) else (some false)))) else ((frisketlaw19_alive.f).bind fun t265 => (if t265 = true then (if t248 = 0 then (if t254 = 0 then (if (t249 == t256 && (t250 == t257 && (t251 == t258 && (t252 == t259 && (t253 == (a0_2 == 3)))))) = true then (some false) else (some false)) else (some false)) else (some false)) else (some false)))) else ((frisketlaw19_alive.f).bind fun t266 => (if t266 = true then (if t248 = 0 then (if t254 = 0 then (if (t249 == t256 && (t250 == t257 && (t251 == t258 && (t252 == t259 && (t253 == (a0_2 == 3)))))) = true then (some false) else (some false)) else (some false)) else (some false)) else (some false)))) else ((frisketlaw19_alive.f).bind fun t267 => (if t267 = true then (if t248 = 0 then (if t254 = 0 then (if (t249 == t256 && (t250 == t257 && (t251 == t258 && (t252 == t259 && (t253 == (a0_2 == 3)))))) = true then (some false) else (some false)) else (some false)) else (some false)) else (some false)))) = some r := by rw [if_pos rfl] at H; exact H
   clear H
   have H := H1
   clear H1
   by_cases c10 : t239 ≥ 0
   ·rw [if_pos c10] at H
    have c10b0 : decide (0 ≤ t239) = true := decide_eq_true c10
    clear c10
    by_cases c11 : t240 ≥ 0
    ·rw [if_pos c11] at H
     have c11b0 : decide (0 ≤ t240) = true := decide_eq_true c11
     clear c11
     by_cases c12 : t241 ≥ 1
     ·rw [if_pos c12] at H
      have c12b0 : decide (1 ≤ t241) = true := decide_eq_true c12
      clear c12
      by_cases c13 : t242 ≥ 1
      ·rw [if_pos c13] at H
       have c13b0 : decide (1 ≤ t242) = true := decide_eq_true c13
       clear c13
       by_cases c14 : (wrap64 (t239 + t241)) ≤ t246
       ·rw [if_pos c14] at H
        have c14b0 : decide ((wrap64 (t239 + t241)) ≤ t246) = true := decide_eq_true c14
        clear c14
        replace H := Option.bind_eq_some_iff.mp H
        obtain ⟨t262, A150, H⟩ := H
        replace H : (if t262 = true then (if t248 = 0 then (if t254 = 0 then (if (t249 == t256 && (t250 == t257 && (t251 == t258 && (t252 == t259 && (t253 == (a0_2 == 3)))))) = true then (if (wrap64 (t240 + t242)) ≤ t247 then (if (wrap64 (t241 * t242)) = (wrap64 (a1_1 * a1_3)) then (some ((wrap64 (t246 * t247)) == (wrap64 (a0_0 * a0_1)))) else (some false)) else (some false)) else (some false)) else (some false)) else (some false)) else (some false)) = some r := H
        have A15 := Aside0.mk A150
        clear A150
        by_cases c16 : t262 = true
        ·subst c16
         have H1 : (if t248 = 0 then (if t254 = 0 then (if (t249 == t256 && (t250 == t257 && (t251 == t258 && (t252 == t259 && (t253 == (a0_2 == 3)))))) = true then (if (wrap64 (t240 + t242)) ≤ t247 then (if (wrap64 (t241 * t242)) = (wrap64 (a1_1 * a1_3)) then (some ((wrap64 (t246 * t247)) == (wrap64 (a0_0 * a0_1)))) else (some false)) else (some false)) else (some false)) else (some false)) else (some false)) = some r := by rw [if_pos rfl] at H; exact H
         clear H
         have H := H1
         clear H1
         by_cases c17 : t248 = 0
         ·rw [if_pos c17] at H
          have c17b0 : (t248 == 0) = true := beq_iff_eq.mpr c17
          have c17b1 : (t248 != 0) = false := bne_eq_false_iff_eq.mpr c17
          clear c17
          by_cases c18 : t254 = 0
          ·rw [if_pos c18] at H
           have c18b0 : (t254 == 0) = true := beq_iff_eq.mpr c18
           have c18b1 : (t254 != 0) = false := bne_eq_false_iff_eq.mpr c18
           clear c18
           by_cases c19 : (t249 == t256 && (t250 == t257 && (t251 == t258 && (t252 == t259 && (t253 == (a0_2 == 3)))))) = true
           ·rw [if_pos c19] at H
            have c19b0 : (t249 == t256 && (t250 == t257 && (t251 == t258 && (t252 == t259 && (t253 == (a0_2 == 3)))))) = true := c19
            (try (have c19b1 : decide (t249 = t256 && (t250 == t257 && (t251 == t258 && (t252 == t259 && (t253 == (a0_2 == 3)))))) = true := by simpa using c19))
            (try (have c19b2 : (t249 == t256 && (t250 == t257 && (t251 == t258 && (t252 == t259 && (t253 == (a0_2 == 3)))))) = true := by simpa using c19))
            clear c19
            by_cases c20 : (wrap64 (t240 + t242)) ≤ t247
            ·rw [if_pos c20] at H
             have c20b0 : decide ((wrap64 (t240 + t242)) ≤ t247) = true := decide_eq_true c20
             clear c20
             by_cases c21 : (wrap64 (t241 * t242)) = (wrap64 (a1_1 * a1_3))
             ·rw [if_pos c21] at H
              have c21b0 : ((wrap64 (t241 * t242)) == (wrap64 (a1_1 * a1_3))) = true := beq_iff_eq.mpr c21
              have c21b1 : ((wrap64 (t241 * t242)) != (wrap64 (a1_1 * a1_3))) = false := bne_eq_false_iff_eq.mpr c21
              clear c21
              obtain rfl := Option.some.inj H
              go_enter Try.func5, Try.ntmps5
              try go_wp2_with (first | ((with_reducible refine gate_dst (N := 2) rfl ?_); refine box_event ?hg (N := 2) ?hd (cs := #[.int .i64 a0_0, .int .i64 a0_1, .int .i64 a0_2]) (t := 26) ?hr ?_; (case hd => rfl); (case hg => rfl); (case hr => first | (go_simp; done) | (go_simp; rfl)); intro gb232 hg w22 hbox hb; have n0_ := Aside0.mk (below_step (by repeat (first | (with_reducible first | exact HB.out | apply below_alloc | apply pw_below_drewN | apply below_drew1) | exact HB.out)) hb); have n1_ := Aside0.mk (hbox); have n2_ := Aside0.mk ((by rw [hg]; exact (below_size (by repeat (first | (with_reducible first | exact HB.out | apply below_alloc | apply pw_below_drewN | apply below_drew1) | exact HB.out))) : w.heap.size ≤ gb232)); have n3_ := Aside0.mk ((by rw [hg]; exact (below_size (by repeat (first | (with_reducible first | exact HB.out | apply below_alloc | apply pw_below_drewN | apply below_drew1) | exact HB.out))) : w.heap.size ≤ gb232)); clear HB; have HB := n0_; have BK232 := n1_; have GW232 := n2_; have GE232 := n3_; clear n0_ n1_ n2_ n3_; clear hb hbox hg) | ((with_reducible refine gate_dst (N := 3) rfl ?_); refine box_event ?hg (N := 3) ?hd (cs := #[.int .i64 a1_0, .int .i64 a1_1, .int .i64 a1_2, .int .i64 a1_3, .bool true]) (t := 28) ?hr ?_; (case hd => rfl); (case hg => rfl); (case hr => first | (go_simp; done) | (go_simp; rfl)); intro gb233 hg w23 hbox hb; have n0_ := Aside0.mk (blk_below (g := gb232) (o := .cells #[.int .i64 a0_0, .int .i64 a0_1, .int .i64 a0_2] 26 (0, 0)) (by (with_reducible repeat (first | refine bN ?_ _ | refine bD ?_ | refine bA ?_ _)); exact BK232.out) hb); have n1_ := Aside0.mk (below_step (by repeat (first | (with_reducible first | exact HB.out | apply below_alloc | apply pw_below_drewN | apply below_drew1 | refine bS ?_ GE232.out) | exact HB.out)) hb); have n2_ := Aside0.mk (hbox); have n3_ := Aside0.mk ((by rw [hg]; exact (below_size (by repeat (first | (with_reducible first | exact HB.out | apply below_alloc | apply pw_below_drewN | apply below_drew1 | refine bS ?_ GE232.out) | exact HB.out))) : w.heap.size ≤ gb233)); have n4_ := Aside0.mk ((by rw [hg]; exact (below_size (by repeat (first | (with_reducible first | exact HB.out | apply below_alloc | apply pw_below_drewN | apply below_drew1 | refine bS ?_ GE232.out) | exact HB.out))) : w.heap.size ≤ gb233)); have n5_ := Aside0.mk ((by rw [hg]; exact Nat.ne_of_lt (blk_lt (g := gb232) (o := .cells #[.int .i64 a0_0, .int .i64 a0_1, .int .i64 a0_2] 26 (0, 0)) (by (with_reducible repeat (first | refine bN ?_ _ | refine bD ?_ | refine bA ?_ _)); exact BK232.out)) : gb232 ≠ gb233)); have n6_ := Aside0.mk ((by rw [hg]; exact Nat.ne_of_gt (blk_lt (g := gb232) (o := .cells #[.int .i64 a0_0, .int .i64 a0_1, .int .i64 a0_2] 26 (0, 0)) (by (with_reducible repeat (first | refine bN ?_ _ | refine bD ?_ | refine bA ?_ _)); exact BK232.out)) : gb233 ≠ gb232)); clear BK232; clear HB; have BK232 := n0_; have HB := n1_; have BK233 := n2_; have GW233 := n3_; have GE233 := n4_; have NB232_233 := n5_; have NB233_232 := n6_; clear n0_ n1_ n2_ n3_ n4_ n5_ n6_; clear hb hbox hg))
              have n0_ := Aside0.mk (blk_drew BK232.out)
              have n1_ := Aside0.mk (blk_drew BK233.out)
              have n2_ := Aside0.mk (below_drew1 HB.out)
              clear BK232
              clear BK233
              clear HB
              have BK232 := n0_
              have BK233 := n1_
              have HB := n2_
              clear n0_ n1_ n2_
              refine start_ (n := 13) (S := fun w' => w'.cell? ⟨gb232, 0, none⟩ = some (.int .i64 a0_0) ∧ w'.cell? ⟨gb232, 1, none⟩ = some (.int .i64 a0_1) ∧ w'.cell? ⟨gb232, 2, none⟩ = some (.int .i64 a0_2) ∧ w'.cell? ⟨gb233, 0, none⟩ = some (.int .i64 a1_0) ∧ w'.cell? ⟨gb233, 1, none⟩ = some (.int .i64 a1_1) ∧ w'.cell? ⟨gb233, 2, none⟩ = some (.int .i64 a1_2) ∧ w'.cell? ⟨gb233, 3, none⟩ = some (.int .i64 a1_3) ∧ w'.cell? ⟨gb233, 4, none⟩ = some (.bool true)) (ds := []) #[false, false, false, false, false, false, false, false, false, false, false, false, false] (by kernel_rfl) rfl rfl ⟨(blk_cell BK232.out 0).trans rfl, (blk_cell BK232.out 1).trans rfl, (blk_cell BK232.out 2).trans rfl, (blk_cell BK233.out 0).trans rfl, (blk_cell BK233.out 1).trans rfl, (blk_cell BK233.out 2).trans rfl, (blk_cell BK233.out 3).trans rfl, (blk_cell BK233.out 4).trans rfl⟩ (fun hHeld => ?_); refine with_tabW frisketlaw19_PlaceRound.tab1 frisketlaw19_PlaceRound.bits1 (fun HT_ HW_ => ?_)
              generalize w23.drew = w24 at BK232 BK233 HB hHeld ⊢
              refine pure_ (i := 0) (N := some 15) (v := ?_) (a' := ?_) #[true, false, false, false, false, false, false, false, false, false, false, false, false] rfl rfl (any_of HT_.out (by kernel_rfl)) (fun _ _ _ h => h) (Or.inl ⟨by rfl, ?_⟩) ?_ ?_
              rotate_left
              ·intro w'
               go_simp
               with_reducible rfl
              rotate_left
              ·simp only [Act.put, List.setIfInBounds_toArray, List.set_cons_zero, List.set_cons_succ, i64_w, i32_w]
               rfl
              refine pure_ (i := 2) (N := some 17) (v := ?_) (a' := ?_) #[true, false, true, false, false, false, false, false, false, false, false, false, false] rfl rfl (any_of HT_.out (by kernel_rfl)) (fun _ _ _ h => h) (Or.inl ⟨by rfl, ?_⟩) ?_ ?_
              rotate_left
              ·intro w'
               go_simp
               with_reducible rfl
              rotate_left
              ·simp only [Act.put, List.setIfInBounds_toArray, List.set_cons_zero, List.set_cons_succ, i64_w, i32_w]
               rfl
              refine take_ (i := 1) (N := some 16) (v := ?_) (a' := ?_) #[true, true, true, false, false, false, false, false, false, false, false, false, false] rfl rfl (take_ofW HT_.out HW_.out (by kernel_rfl)) (fun _ _ _ h => h) (Or.inl ⟨by rfl, ?_⟩) hHeld ?_ ?_
              rotate_left
              ·rintro w' ⟨s0, s1, s2, s3, s4, s5, s6, s7⟩
               go_simp
               with_reducible rfl
              rotate_left
              ·simp only [Act.put, List.setIfInBounds_toArray, List.set_cons_zero, List.set_cons_succ, i64_w, i32_w]
               rfl
              refine take_ (i := 3) (N := some 18) (v := ?_) (a' := ?_) #[true, true, true, true, false, false, false, false, false, false, false, false, false] rfl rfl (take_ofW HT_.out HW_.out (by kernel_rfl)) (fun _ _ _ h => h) (Or.inl ⟨by rfl, ?_⟩) hHeld ?_ ?_
              rotate_left
              ·rintro w' ⟨s0, s1, s2, s3, s4, s5, s6, s7⟩
               go_simp
               with_reducible rfl
              rotate_left
              ·simp only [Act.put, List.setIfInBounds_toArray, List.set_cons_zero, List.set_cons_succ, i64_w, i32_w]
               rfl
              refine take_ (i := 4) (N := some 19) (v := ?_) (a' := ?_) #[true, true, true, true, true, false, false, false, false, false, false, false, false] rfl rfl (take_ofW HT_.out HW_.out (by kernel_rfl)) (fun _ _ _ h => h) (Or.inl ⟨by rfl, ?_⟩) hHeld ?_ ?_
              rotate_left
              ·rintro w' ⟨s0, s1, s2, s3, s4, s5, s6, s7⟩
               go_simp
               with_reducible rfl
              rotate_left
              ·simp only [Act.put, List.setIfInBounds_toArray, List.set_cons_zero, List.set_cons_succ, i64_w, i32_w]
               rfl
              refine join_ (σ := Nat) 2 #[true, true, true, true, true, true, true, true, true, true, true, false, false] (fun s_ => [(20, .agg #[.int .i64 t234, .int .i64 t235, .int .i64 t236, .int .i64 t237, .bool t238]), (21, .tuple #[.agg #[.int .i64 t239, .int .i64 t240, .int .i64 t241, .int .i64 t242], .int .i64 t243]), (5, .pointer (some ⟨s_, 0, none⟩)), (14, .tuple #[.agg #[.int .i64 t239, .int .i64 t240, .int .i64 t241, .int .i64 t242], .int .i64 t243]), (22, .agg #[.int .i64 t239, .int .i64 t240, .int .i64 t241, .int .i64 t242]), (23, .int .i64 t243)]) (fun s_ w' => (w'.cell? ⟨gb232, 0, none⟩ = some (.int .i64 a0_0) ∧ w'.cell? ⟨gb232, 1, none⟩ = some (.int .i64 a0_1) ∧ w'.cell? ⟨gb232, 2, none⟩ = some (.int .i64 a0_2) ∧ w'.cell? ⟨gb233, 0, none⟩ = some (.int .i64 a1_0) ∧ w'.cell? ⟨gb233, 1, none⟩ = some (.int .i64 a1_1) ∧ w'.cell? ⟨gb233, 2, none⟩ = some (.int .i64 a1_2) ∧ w'.cell? ⟨gb233, 3, none⟩ = some (.int .i64 a1_3) ∧ w'.cell? ⟨gb233, 4, none⟩ = some (.bool true)) ∧ (w'.heap[gb232]? = some (.cells #[.int .i64 a0_0, .int .i64 a0_1, .int .i64 a0_2] 26 (0, 0))) ∧ (w'.heap[gb233]? = some (.cells #[.int .i64 a1_0, .int .i64 a1_1, .int .i64 a1_2, .int .i64 a1_3, .bool true] 28 (0, 0))) ∧ (w'.heap[s_]? = some (.cells #[.int .i64 0, .int .i64 0, .int .i64 0, .int .i64 0] 33 (0, 0))) ∧ (w.heap.size ≤ s_) ∧ (w.heap.size ≤ s_) ∧ (gb232 ≠ s_) ∧ (s_ ≠ gb232) ∧ (gb233 ≠ s_) ∧ (s_ ≠ gb233) ∧ (Below w.heap.size w w')) ?_ ?_
              rotate_left
              ·intro hCont
               refine two_ (i := 5) (j := 10) (Ni := some 20) (Nj := some 5) #[true, true, true, true, true, true, false, false, false, false, false, false, false] #[true, true, true, true, true, false, false, false, false, false, true, false, false] rfl rfl rfl rfl (two_of HT_.out (by kernel_rfl)) (by decide) (by decide) (fun K hK => ?_) (fun K hK => ?_)
               ·skip
                refine goes_ Try.func11 (by kernel_rfl) rfl #[.agg #[.int .i64 a1_0, .int .i64 a1_1, .int .i64 a1_2, .int .i64 a1_3, .bool true]] (by rfl) rfl rfl (by (try simp only [List.map_toArray, List.map_cons, List.map_nil]); first | done | rfl | (simp only [List.length_drop, List.length_take]; rfl)) ?_
                with_reducible refine (frisketlaw19_box.calls a1_0 a1_1 a1_2 a1_3 true t234 t235 t236 t237 t238 _ A3.out).mono ?_
                rintro e w25 ⟨rfl, hb⟩
                refine ⟨_, rfl, ?_⟩
                have n0_ := Aside0.mk (blk_below (g := gb232) (o := .cells #[.int .i64 a0_0, .int .i64 a0_1, .int .i64 a0_2] 26 (0, 0)) (by (with_reducible repeat (first | refine bN ?_ _ | refine bD ?_ | refine bA ?_ _)); exact BK232.out) hb)
                have n1_ := Aside0.mk (blk_below (g := gb233) (o := .cells #[.int .i64 a1_0, .int .i64 a1_1, .int .i64 a1_2, .int .i64 a1_3, .bool true] 28 (0, 0)) (by (with_reducible repeat (first | refine bN ?_ _ | refine bD ?_ | refine bA ?_ _)); exact BK233.out) hb)
                have n2_ := Aside0.mk (below_step (by repeat (first | (with_reducible first | exact HB.out | apply below_alloc | apply pw_below_drewN | apply below_drew1 | refine bS ?_ GE232.out | refine bS ?_ GE233.out) | exact HB.out)) hb)
                clear BK232
                clear BK233
                clear HB
                have BK232 := n0_
                have BK233 := n1_
                have HB := n2_
                clear n0_ n1_ n2_
                (try clear hb)
                (try clear hb2)
                (try clear hk)
                (try clear hi)
                refine hK.out _ _ ⟨(blk_cell BK232.out 0).trans rfl, (blk_cell BK232.out 1).trans rfl, (blk_cell BK232.out 2).trans rfl, (blk_cell BK233.out 0).trans rfl, (blk_cell BK233.out 1).trans rfl, (blk_cell BK233.out 2).trans rfl, (blk_cell BK233.out 3).trans rfl, (blk_cell BK233.out 4).trans rfl⟩ (fun hHeld => ?_)
                clear hK K
                refine norm_ (a' := ?_) ?_ ?_
                rotate_left
                ·show Act.put _ (some 20) _ = _
                 simp only [Act.put, List.setIfInBounds_toArray, List.set_cons_zero, List.set_cons_succ, i64_w, i32_w]
                 rfl
                refine two_ (i := 6) (j := 10) (Ni := some 21) (Nj := some 5) #[true, true, true, true, true, true, true, false, false, false, false, false, false] #[true, true, true, true, true, true, false, false, false, false, true, false, false] rfl rfl rfl rfl (two_of HT_.out (by kernel_rfl)) (by decide) (by decide) (fun K hK => ?_) (fun K hK => ?_)
                ·skip
                 refine goes_ Try.func10 (by kernel_rfl) rfl #[.agg #[.int .i64 a0_0, .int .i64 a0_1], .int .i64 a0_2, .agg #[.int .i64 t234, .int .i64 t235, .int .i64 t236, .int .i64 t237, .bool t238]] (by rfl) rfl rfl (by (try simp only [List.map_toArray, List.map_cons, List.map_nil]); first | done | rfl | (simp only [List.length_drop, List.length_take]; rfl)) ?_
                 with_reducible refine (place_Cells.calls a0_0 a0_1 a0_2 t234 t235 t236 t237 t238 t239 t240 t241 t242 t243 _ A4.out).mono ?_
                 rintro e w26 ⟨rfl, hb⟩
                 refine ⟨_, rfl, ?_⟩
                 have n0_ := Aside0.mk (blk_below (g := gb232) (o := .cells #[.int .i64 a0_0, .int .i64 a0_1, .int .i64 a0_2] 26 (0, 0)) (by (with_reducible repeat (first | refine bN ?_ _ | refine bD ?_ | refine bA ?_ _)); exact BK232.out) hb)
                 have n1_ := Aside0.mk (blk_below (g := gb233) (o := .cells #[.int .i64 a1_0, .int .i64 a1_1, .int .i64 a1_2, .int .i64 a1_3, .bool true] 28 (0, 0)) (by (with_reducible repeat (first | refine bN ?_ _ | refine bD ?_ | refine bA ?_ _)); exact BK233.out) hb)
                 have n2_ := Aside0.mk (below_step (by repeat (first | (with_reducible first | exact HB.out | apply below_alloc | apply pw_below_drewN | apply below_drew1 | refine bS ?_ GE232.out | refine bS ?_ GE233.out) | exact HB.out)) hb)
                 clear BK232
                 clear BK233
                 clear HB
                 have BK232 := n0_
                 have BK233 := n1_
                 have HB := n2_
                 clear n0_ n1_ n2_
                 (try clear hb)
                 (try clear hb2)
                 (try clear hk)
                 (try clear hi)
                 refine hK.out _ _ ⟨(blk_cell BK232.out 0).trans rfl, (blk_cell BK232.out 1).trans rfl, (blk_cell BK232.out 2).trans rfl, (blk_cell BK233.out 0).trans rfl, (blk_cell BK233.out 1).trans rfl, (blk_cell BK233.out 2).trans rfl, (blk_cell BK233.out 3).trans rfl, (blk_cell BK233.out 4).trans rfl⟩ (fun hHeld => ?_)
                 clear hK K
                 refine norm_ (a' := ?_) ?_ ?_
                 rotate_left
                 ·show Act.put _ (some 21) _ = _
                  simp only [Act.put, List.setIfInBounds_toArray, List.set_cons_zero, List.set_cons_succ, i64_w, i32_w]
                  rfl
                 refine pure_ (i := 7) (N := some 14) (v := ?_) (a' := ?_) #[true, true, true, true, true, true, true, true, false, false, false, false, false] rfl rfl (any_of HT_.out (by kernel_rfl)) (fun _ _ _ h => h) (Or.inl ⟨by rfl, ?_⟩) ?_ ?_
                 rotate_left
                 ·intro w'
                  go_simp
                  with_reducible rfl
                 rotate_left
                 ·simp only [Act.put, List.setIfInBounds_toArray, List.set_cons_zero, List.set_cons_succ, i64_w, i32_w]
                  rfl
                 refine pure_ (i := 8) (N := some 22) (v := ?_) (a' := ?_) #[true, true, true, true, true, true, true, true, true, false, false, false, false] rfl rfl (any_of HT_.out (by kernel_rfl)) (fun _ _ _ h => h) (Or.inl ⟨by rfl, ?_⟩) ?_ ?_
                 rotate_left
                 ·intro w'
                  go_simp
                  with_reducible rfl
                 rotate_left
                 ·simp only [Act.put, List.setIfInBounds_toArray, List.set_cons_zero, List.set_cons_succ, i64_w, i32_w]
                  rfl
                 refine pure_ (i := 9) (N := some 23) (v := ?_) (a' := ?_) #[true, true, true, true, true, true, true, true, true, true, false, false, false] rfl rfl (any_of HT_.out (by kernel_rfl)) (fun _ _ _ h => h) (Or.inl ⟨by rfl, ?_⟩) ?_ ?_
                 rotate_left
                 ·intro w'
                  go_simp
                  with_reducible rfl
                 rotate_left
                 ·simp only [Act.put, List.setIfInBounds_toArray, List.set_cons_zero, List.set_cons_succ, i64_w, i32_w]
                  rfl
                 refine one_ (i := 10) (N := some 5) #[true, true, true, true, true, true, true, true, true, true, true, false, false] rfl rfl (one_of HT_.out (by kernel_rfl)) (by decide) (fun K hK => ?_)
                 refine box_step ?hg (N := 5) ?hd (cs := #[.int .i64 0, .int .i64 0, .int .i64 0, .int .i64 0]) (t := 33) ?hr ?_; (case hd => rfl); (case hg => rfl); (case hr => first | (go_simp; done) | (go_simp; rfl))
                 intro gb244 hg w27 hbox hb
                 have n0_ := Aside0.mk (blk_below (g := gb232) (o := .cells #[.int .i64 a0_0, .int .i64 a0_1, .int .i64 a0_2] 26 (0, 0)) (by (with_reducible repeat (first | refine bN ?_ _ | refine bD ?_ | refine bA ?_ _)); exact BK232.out) hb)
                 have n1_ := Aside0.mk (blk_below (g := gb233) (o := .cells #[.int .i64 a1_0, .int .i64 a1_1, .int .i64 a1_2, .int .i64 a1_3, .bool true] 28 (0, 0)) (by (with_reducible repeat (first | refine bN ?_ _ | refine bD ?_ | refine bA ?_ _)); exact BK233.out) hb)
                 have n2_ := Aside0.mk (below_step (by repeat (first | (with_reducible first | exact HB.out | apply below_alloc | apply pw_below_drewN | apply below_drew1 | refine bS ?_ GE232.out | refine bS ?_ GE233.out) | exact HB.out)) hb)
                 have n3_ := Aside0.mk (hbox)
                 have n4_ := Aside0.mk ((by rw [hg]; exact (below_size (by repeat (first | (with_reducible first | exact HB.out | apply below_alloc | apply pw_below_drewN | apply below_drew1 | refine bS ?_ GE232.out | refine bS ?_ GE233.out) | exact HB.out))) : w.heap.size ≤ gb244))
                 have n5_ := Aside0.mk ((by rw [hg]; exact (below_size (by repeat (first | (with_reducible first | exact HB.out | apply below_alloc | apply pw_below_drewN | apply below_drew1 | refine bS ?_ GE232.out | refine bS ?_ GE233.out) | exact HB.out))) : w.heap.size ≤ gb244))
                 have n6_ := Aside0.mk ((by rw [hg]; exact Nat.ne_of_lt (blk_lt (g := gb232) (o := .cells #[.int .i64 a0_0, .int .i64 a0_1, .int .i64 a0_2] 26 (0, 0)) (by (with_reducible repeat (first | refine bN ?_ _ | refine bD ?_ | refine bA ?_ _)); exact BK232.out)) : gb232 ≠ gb244))
                 have n7_ := Aside0.mk ((by rw [hg]; exact Nat.ne_of_gt (blk_lt (g := gb232) (o := .cells #[.int .i64 a0_0, .int .i64 a0_1, .int .i64 a0_2] 26 (0, 0)) (by (with_reducible repeat (first | refine bN ?_ _ | refine bD ?_ | refine bA ?_ _)); exact BK232.out)) : gb244 ≠ gb232))
                 have n8_ := Aside0.mk ((by rw [hg]; exact Nat.ne_of_lt (blk_lt (g := gb233) (o := .cells #[.int .i64 a1_0, .int .i64 a1_1, .int .i64 a1_2, .int .i64 a1_3, .bool true] 28 (0, 0)) (by (with_reducible repeat (first | refine bN ?_ _ | refine bD ?_ | refine bA ?_ _)); exact BK233.out)) : gb233 ≠ gb244))
                 have n9_ := Aside0.mk ((by rw [hg]; exact Nat.ne_of_gt (blk_lt (g := gb233) (o := .cells #[.int .i64 a1_0, .int .i64 a1_1, .int .i64 a1_2, .int .i64 a1_3, .bool true] 28 (0, 0)) (by (with_reducible repeat (first | refine bN ?_ _ | refine bD ?_ | refine bA ?_ _)); exact BK233.out)) : gb244 ≠ gb233))
                 clear BK232
                 clear BK233
                 clear HB
                 have BK232 := n0_
                 have BK233 := n1_
                 have HB := n2_
                 have BK244 := n3_
                 have GW244 := n4_
                 have GE244 := n5_
                 have NB232_244 := n6_
                 have NB244_232 := n7_
                 have NB233_244 := n8_
                 have NB244_233 := n9_
                 clear n0_ n1_ n2_ n3_ n4_ n5_ n6_ n7_ n8_ n9_
                 clear hb hbox hg
                 refine hK.out _ _ ⟨(blk_cell BK232.out 0).trans rfl, (blk_cell BK232.out 1).trans rfl, (blk_cell BK232.out 2).trans rfl, (blk_cell BK233.out 0).trans rfl, (blk_cell BK233.out 1).trans rfl, (blk_cell BK233.out 2).trans rfl, (blk_cell BK233.out 3).trans rfl, (blk_cell BK233.out 4).trans rfl⟩ (fun hHeld => ?_)
                 clear hK K
                 refine norm_ (a' := ?_) ?_ ?_
                 rotate_left
                 ·show Act.put _ (some 5) _ = _
                  simp only [Act.put, List.setIfInBounds_toArray, List.set_cons_zero, List.set_cons_succ, i64_w, i32_w]
                  rfl
                 exact norm_ (by simp only [putAll, Act.put, List.setIfInBounds_toArray, List.set_cons_zero, List.set_cons_succ]) (hCont (gb244) _ ⟨hHeld, (by (with_reducible repeat (first | refine bN ?_ _ | refine bD ?_ | refine bA ?_ _)); exact BK232.out), (by (with_reducible repeat (first | refine bN ?_ _ | refine bD ?_ | refine bA ?_ _)); exact BK233.out), (by (with_reducible repeat (first | refine bN ?_ _ | refine bD ?_ | refine bA ?_ _)); exact BK244.out), GW244.out, GE244.out, NB232_244.out, NB244_232.out, NB233_244.out, NB244_233.out, (by repeat (first | (with_reducible first | exact HB.out | apply below_alloc | apply pw_below_drewN | apply below_drew1 | refine bS ?_ GE232.out | refine bS ?_ GE233.out | refine bS ?_ GE244.out) | exact HB.out))⟩)
                ·skip
                 refine box_step ?hg (N := 5) ?hd (cs := #[.int .i64 0, .int .i64 0, .int .i64 0, .int .i64 0]) (t := 33) ?hr ?_; (case hd => rfl); (case hg => rfl); (case hr => first | (go_simp; done) | (go_simp; rfl))
                 intro gb244 hg w26 hbox hb
                 have n0_ := Aside0.mk (blk_below (g := gb232) (o := .cells #[.int .i64 a0_0, .int .i64 a0_1, .int .i64 a0_2] 26 (0, 0)) (by (with_reducible repeat (first | refine bN ?_ _ | refine bD ?_ | refine bA ?_ _)); exact BK232.out) hb)
                 have n1_ := Aside0.mk (blk_below (g := gb233) (o := .cells #[.int .i64 a1_0, .int .i64 a1_1, .int .i64 a1_2, .int .i64 a1_3, .bool true] 28 (0, 0)) (by (with_reducible repeat (first | refine bN ?_ _ | refine bD ?_ | refine bA ?_ _)); exact BK233.out) hb)
                 have n2_ := Aside0.mk (below_step (by repeat (first | (with_reducible first | exact HB.out | apply below_alloc | apply pw_below_drewN | apply below_drew1 | refine bS ?_ GE232.out | refine bS ?_ GE233.out) | exact HB.out)) hb)
                 have n3_ := Aside0.mk (hbox)
                 have n4_ := Aside0.mk ((by rw [hg]; exact (below_size (by repeat (first | (with_reducible first | exact HB.out | apply below_alloc | apply pw_below_drewN | apply below_drew1 | refine bS ?_ GE232.out | refine bS ?_ GE233.out) | exact HB.out))) : w.heap.size ≤ gb244))
                 have n5_ := Aside0.mk ((by rw [hg]; exact (below_size (by repeat (first | (with_reducible first | exact HB.out | apply below_alloc | apply pw_below_drewN | apply below_drew1 | refine bS ?_ GE232.out | refine bS ?_ GE233.out) | exact HB.out))) : w.heap.size ≤ gb244))
                 have n6_ := Aside0.mk ((by rw [hg]; exact Nat.ne_of_lt (blk_lt (g := gb232) (o := .cells #[.int .i64 a0_0, .int .i64 a0_1, .int .i64 a0_2] 26 (0, 0)) (by (with_reducible repeat (first | refine bN ?_ _ | refine bD ?_ | refine bA ?_ _)); exact BK232.out)) : gb232 ≠ gb244))
                 have n7_ := Aside0.mk ((by rw [hg]; exact Nat.ne_of_gt (blk_lt (g := gb232) (o := .cells #[.int .i64 a0_0, .int .i64 a0_1, .int .i64 a0_2] 26 (0, 0)) (by (with_reducible repeat (first | refine bN ?_ _ | refine bD ?_ | refine bA ?_ _)); exact BK232.out)) : gb244 ≠ gb232))
                 have n8_ := Aside0.mk ((by rw [hg]; exact Nat.ne_of_lt (blk_lt (g := gb233) (o := .cells #[.int .i64 a1_0, .int .i64 a1_1, .int .i64 a1_2, .int .i64 a1_3, .bool true] 28 (0, 0)) (by (with_reducible repeat (first | refine bN ?_ _ | refine bD ?_ | refine bA ?_ _)); exact BK233.out)) : gb233 ≠ gb244))
                 have n9_ := Aside0.mk ((by rw [hg]; exact Nat.ne_of_gt (blk_lt (g := gb233) (o := .cells #[.int .i64 a1_0, .int .i64 a1_1, .int .i64 a1_2, .int .i64 a1_3, .bool true] 28 (0, 0)) (by (with_reducible repeat (first | refine bN ?_ _ | refine bD ?_ | refine bA ?_ _)); exact BK233.out)) : gb244 ≠ gb233))
                 clear BK232
                 clear BK233
                 clear HB
                 have BK232 := n0_
                 have BK233 := n1_
                 have HB := n2_
                 have BK244 := n3_
                 have GW244 := n4_
                 have GE244 := n5_
                 have NB232_244 := n6_
                 have NB244_232 := n7_
                 have NB233_244 := n8_
                 have NB244_233 := n9_
                 clear n0_ n1_ n2_ n3_ n4_ n5_ n6_ n7_ n8_ n9_
                 clear hb hbox hg
                 refine hK.out _ _ ⟨(blk_cell BK232.out 0).trans rfl, (blk_cell BK232.out 1).trans rfl, (blk_cell BK232.out 2).trans rfl, (blk_cell BK233.out 0).trans rfl, (blk_cell BK233.out 1).trans rfl, (blk_cell BK233.out 2).trans rfl, (blk_cell BK233.out 3).trans rfl, (blk_cell BK233.out 4).trans rfl⟩ (fun hHeld => ?_)
                 clear hK K
                 refine norm_ (a' := ?_) ?_ ?_
                 rotate_left
                 ·show Act.put _ (some 5) _ = _
                  simp only [Act.put, List.setIfInBounds_toArray, List.set_cons_zero, List.set_cons_succ, i64_w, i32_w]
                  rfl
                 refine one_ (i := 6) (N := some 21) #[true, true, true, true, true, true, true, false, false, false, true, false, false] rfl rfl (one_of HT_.out (by kernel_rfl)) (by decide) (fun K hK => ?_)
                 refine goes_ Try.func10 (by kernel_rfl) rfl #[.agg #[.int .i64 a0_0, .int .i64 a0_1], .int .i64 a0_2, .agg #[.int .i64 t234, .int .i64 t235, .int .i64 t236, .int .i64 t237, .bool t238]] (by rfl) rfl rfl (by (try simp only [List.map_toArray, List.map_cons, List.map_nil]); first | done | rfl | (simp only [List.length_drop, List.length_take]; rfl)) ?_
                 with_reducible refine (place_Cells.calls a0_0 a0_1 a0_2 t234 t235 t236 t237 t238 t239 t240 t241 t242 t243 _ A4.out).mono ?_
                 rintro e w27 ⟨rfl, hb⟩
                 refine ⟨_, rfl, ?_⟩
                 have n0_ := Aside0.mk (blk_below (g := gb232) (o := .cells #[.int .i64 a0_0, .int .i64 a0_1, .int .i64 a0_2] 26 (0, 0)) (by (with_reducible repeat (first | refine bN ?_ _ | refine bD ?_ | refine bA ?_ _)); exact BK232.out) hb)
                 have n1_ := Aside0.mk (blk_below (g := gb233) (o := .cells #[.int .i64 a1_0, .int .i64 a1_1, .int .i64 a1_2, .int .i64 a1_3, .bool true] 28 (0, 0)) (by (with_reducible repeat (first | refine bN ?_ _ | refine bD ?_ | refine bA ?_ _)); exact BK233.out) hb)
                 have n2_ := Aside0.mk (blk_below (g := gb244) (o := .cells #[.int .i64 0, .int .i64 0, .int .i64 0, .int .i64 0] 33 (0, 0)) (by (with_reducible repeat (first | refine bN ?_ _ | refine bD ?_ | refine bA ?_ _)); exact BK244.out) hb)
                 have n3_ := Aside0.mk (below_step (by repeat (first | (with_reducible first | exact HB.out | apply below_alloc | apply pw_below_drewN | apply below_drew1 | refine bS ?_ GE232.out | refine bS ?_ GE233.out | refine bS ?_ GE244.out) | exact HB.out)) hb)
                 clear BK232
                 clear BK233
                 clear BK244
                 clear HB
                 have BK232 := n0_
                 have BK233 := n1_
                 have BK244 := n2_
                 have HB := n3_
                 clear n0_ n1_ n2_ n3_
                 (try clear hb)
                 (try clear hb2)
                 (try clear hk)
                 (try clear hi)
                 refine hK.out _ _ ⟨(blk_cell BK232.out 0).trans rfl, (blk_cell BK232.out 1).trans rfl, (blk_cell BK232.out 2).trans rfl, (blk_cell BK233.out 0).trans rfl, (blk_cell BK233.out 1).trans rfl, (blk_cell BK233.out 2).trans rfl, (blk_cell BK233.out 3).trans rfl, (blk_cell BK233.out 4).trans rfl⟩ (fun hHeld => ?_)
                 clear hK K
                 refine norm_ (a' := ?_) ?_ ?_
                 rotate_left
                 ·show Act.put _ (some 21) _ = _
                  simp only [Act.put, List.setIfInBounds_toArray, List.set_cons_zero, List.set_cons_succ, i64_w, i32_w]
                  rfl
                 refine pure_ (i := 7) (N := some 14) (v := ?_) (a' := ?_) #[true, true, true, true, true, true, true, true, false, false, true, false, false] rfl rfl (any_of HT_.out (by kernel_rfl)) (fun _ _ _ h => h) (Or.inl ⟨by rfl, ?_⟩) ?_ ?_
                 rotate_left
                 ·intro w'
                  go_simp
                  with_reducible rfl
                 rotate_left
                 ·simp only [Act.put, List.setIfInBounds_toArray, List.set_cons_zero, List.set_cons_succ, i64_w, i32_w]
                  rfl
                 refine pure_ (i := 8) (N := some 22) (v := ?_) (a' := ?_) #[true, true, true, true, true, true, true, true, true, false, true, false, false] rfl rfl (any_of HT_.out (by kernel_rfl)) (fun _ _ _ h => h) (Or.inl ⟨by rfl, ?_⟩) ?_ ?_
                 rotate_left
                 ·intro w'
                  go_simp
                  with_reducible rfl
                 rotate_left
                 ·simp only [Act.put, List.setIfInBounds_toArray, List.set_cons_zero, List.set_cons_succ, i64_w, i32_w]
                  rfl
                 refine pure_ (i := 9) (N := some 23) (v := ?_) (a' := ?_) #[true, true, true, true, true, true, true, true, true, true, true, false, false] rfl rfl (any_of HT_.out (by kernel_rfl)) (fun _ _ _ h => h) (Or.inl ⟨by rfl, ?_⟩) ?_ ?_
                 rotate_left
                 ·intro w'
                  go_simp
                  with_reducible rfl
                 rotate_left
                 ·simp only [Act.put, List.setIfInBounds_toArray, List.set_cons_zero, List.set_cons_succ, i64_w, i32_w]
                  rfl
                 exact norm_ (by simp only [putAll, Act.put, List.setIfInBounds_toArray, List.set_cons_zero, List.set_cons_succ]) (hCont (gb244) _ ⟨hHeld, (by (with_reducible repeat (first | refine bN ?_ _ | refine bD ?_ | refine bA ?_ _)); exact BK232.out), (by (with_reducible repeat (first | refine bN ?_ _ | refine bD ?_ | refine bA ?_ _)); exact BK233.out), (by (with_reducible repeat (first | refine bN ?_ _ | refine bD ?_ | refine bA ?_ _)); exact BK244.out), GW244.out, GE244.out, NB232_244.out, NB244_232.out, NB233_244.out, NB244_233.out, (by repeat (first | (with_reducible first | exact HB.out | apply below_alloc | apply pw_below_drewN | apply below_drew1 | refine bS ?_ GE232.out | refine bS ?_ GE233.out | refine bS ?_ GE244.out) | exact HB.out))⟩)
               ·skip
                refine box_step ?hg (N := 5) ?hd (cs := #[.int .i64 0, .int .i64 0, .int .i64 0, .int .i64 0]) (t := 33) ?hr ?_; (case hd => rfl); (case hg => rfl); (case hr => first | (go_simp; done) | (go_simp; rfl))
                intro gb244 hg w25 hbox hb
                have n0_ := Aside0.mk (blk_below (g := gb232) (o := .cells #[.int .i64 a0_0, .int .i64 a0_1, .int .i64 a0_2] 26 (0, 0)) (by (with_reducible repeat (first | refine bN ?_ _ | refine bD ?_ | refine bA ?_ _)); exact BK232.out) hb)
                have n1_ := Aside0.mk (blk_below (g := gb233) (o := .cells #[.int .i64 a1_0, .int .i64 a1_1, .int .i64 a1_2, .int .i64 a1_3, .bool true] 28 (0, 0)) (by (with_reducible repeat (first | refine bN ?_ _ | refine bD ?_ | refine bA ?_ _)); exact BK233.out) hb)
                have n2_ := Aside0.mk (below_step (by repeat (first | (with_reducible first | exact HB.out | apply below_alloc | apply pw_below_drewN | apply below_drew1 | refine bS ?_ GE232.out | refine bS ?_ GE233.out) | exact HB.out)) hb)
                have n3_ := Aside0.mk (hbox)
                have n4_ := Aside0.mk ((by rw [hg]; exact (below_size (by repeat (first | (with_reducible first | exact HB.out | apply below_alloc | apply pw_below_drewN | apply below_drew1 | refine bS ?_ GE232.out | refine bS ?_ GE233.out) | exact HB.out))) : w.heap.size ≤ gb244))
                have n5_ := Aside0.mk ((by rw [hg]; exact (below_size (by repeat (first | (with_reducible first | exact HB.out | apply below_alloc | apply pw_below_drewN | apply below_drew1 | refine bS ?_ GE232.out | refine bS ?_ GE233.out) | exact HB.out))) : w.heap.size ≤ gb244))
                have n6_ := Aside0.mk ((by rw [hg]; exact Nat.ne_of_lt (blk_lt (g := gb232) (o := .cells #[.int .i64 a0_0, .int .i64 a0_1, .int .i64 a0_2] 26 (0, 0)) (by (with_reducible repeat (first | refine bN ?_ _ | refine bD ?_ | refine bA ?_ _)); exact BK232.out)) : gb232 ≠ gb244))
                have n7_ := Aside0.mk ((by rw [hg]; exact Nat.ne_of_gt (blk_lt (g := gb232) (o := .cells #[.int .i64 a0_0, .int .i64 a0_1, .int .i64 a0_2] 26 (0, 0)) (by (with_reducible repeat (first | refine bN ?_ _ | refine bD ?_ | refine bA ?_ _)); exact BK232.out)) : gb244 ≠ gb232))
                have n8_ := Aside0.mk ((by rw [hg]; exact Nat.ne_of_lt (blk_lt (g := gb233) (o := .cells #[.int .i64 a1_0, .int .i64 a1_1, .int .i64 a1_2, .int .i64 a1_3, .bool true] 28 (0, 0)) (by (with_reducible repeat (first | refine bN ?_ _ | refine bD ?_ | refine bA ?_ _)); exact BK233.out)) : gb233 ≠ gb244))
                have n9_ := Aside0.mk ((by rw [hg]; exact Nat.ne_of_gt (blk_lt (g := gb233) (o := .cells #[.int .i64 a1_0, .int .i64 a1_1, .int .i64 a1_2, .int .i64 a1_3, .bool true] 28 (0, 0)) (by (with_reducible repeat (first | refine bN ?_ _ | refine bD ?_ | refine bA ?_ _)); exact BK233.out)) : gb244 ≠ gb233))
                clear BK232
                clear BK233
                clear HB
                have BK232 := n0_
                have BK233 := n1_
                have HB := n2_
                have BK244 := n3_
                have GW244 := n4_
                have GE244 := n5_
                have NB232_244 := n6_
                have NB244_232 := n7_
                have NB233_244 := n8_
                have NB244_233 := n9_
                clear n0_ n1_ n2_ n3_ n4_ n5_ n6_ n7_ n8_ n9_
                clear hb hbox hg
                refine hK.out _ _ ⟨(blk_cell BK232.out 0).trans rfl, (blk_cell BK232.out 1).trans rfl, (blk_cell BK232.out 2).trans rfl, (blk_cell BK233.out 0).trans rfl, (blk_cell BK233.out 1).trans rfl, (blk_cell BK233.out 2).trans rfl, (blk_cell BK233.out 3).trans rfl, (blk_cell BK233.out 4).trans rfl⟩ (fun hHeld => ?_)
                clear hK K
                refine norm_ (a' := ?_) ?_ ?_
                rotate_left
                ·show Act.put _ (some 5) _ = _
                 simp only [Act.put, List.setIfInBounds_toArray, List.set_cons_zero, List.set_cons_succ, i64_w, i32_w]
                 rfl
                refine one_ (i := 5) (N := some 20) #[true, true, true, true, true, true, false, false, false, false, true, false, false] rfl rfl (one_of HT_.out (by kernel_rfl)) (by decide) (fun K hK => ?_)
                refine goes_ Try.func11 (by kernel_rfl) rfl #[.agg #[.int .i64 a1_0, .int .i64 a1_1, .int .i64 a1_2, .int .i64 a1_3, .bool true]] (by rfl) rfl rfl (by (try simp only [List.map_toArray, List.map_cons, List.map_nil]); first | done | rfl | (simp only [List.length_drop, List.length_take]; rfl)) ?_
                with_reducible refine (frisketlaw19_box.calls a1_0 a1_1 a1_2 a1_3 true t234 t235 t236 t237 t238 _ A3.out).mono ?_
                rintro e w26 ⟨rfl, hb⟩
                refine ⟨_, rfl, ?_⟩
                have n0_ := Aside0.mk (blk_below (g := gb232) (o := .cells #[.int .i64 a0_0, .int .i64 a0_1, .int .i64 a0_2] 26 (0, 0)) (by (with_reducible repeat (first | refine bN ?_ _ | refine bD ?_ | refine bA ?_ _)); exact BK232.out) hb)
                have n1_ := Aside0.mk (blk_below (g := gb233) (o := .cells #[.int .i64 a1_0, .int .i64 a1_1, .int .i64 a1_2, .int .i64 a1_3, .bool true] 28 (0, 0)) (by (with_reducible repeat (first | refine bN ?_ _ | refine bD ?_ | refine bA ?_ _)); exact BK233.out) hb)
                have n2_ := Aside0.mk (blk_below (g := gb244) (o := .cells #[.int .i64 0, .int .i64 0, .int .i64 0, .int .i64 0] 33 (0, 0)) (by (with_reducible repeat (first | refine bN ?_ _ | refine bD ?_ | refine bA ?_ _)); exact BK244.out) hb)
                have n3_ := Aside0.mk (below_step (by repeat (first | (with_reducible first | exact HB.out | apply below_alloc | apply pw_below_drewN | apply below_drew1 | refine bS ?_ GE232.out | refine bS ?_ GE233.out | refine bS ?_ GE244.out) | exact HB.out)) hb)
                clear BK232
                clear BK233
                clear BK244
                clear HB
                have BK232 := n0_
                have BK233 := n1_
                have BK244 := n2_
                have HB := n3_
                clear n0_ n1_ n2_ n3_
                (try clear hb)
                (try clear hb2)
                (try clear hk)
                (try clear hi)
                refine hK.out _ _ ⟨(blk_cell BK232.out 0).trans rfl, (blk_cell BK232.out 1).trans rfl, (blk_cell BK232.out 2).trans rfl, (blk_cell BK233.out 0).trans rfl, (blk_cell BK233.out 1).trans rfl, (blk_cell BK233.out 2).trans rfl, (blk_cell BK233.out 3).trans rfl, (blk_cell BK233.out 4).trans rfl⟩ (fun hHeld => ?_)
                clear hK K
                refine norm_ (a' := ?_) ?_ ?_
                rotate_left
                ·show Act.put _ (some 20) _ = _
                 simp only [Act.put, List.setIfInBounds_toArray, List.set_cons_zero, List.set_cons_succ, i64_w, i32_w]
                 rfl
                refine one_ (i := 6) (N := some 21) #[true, true, true, true, true, true, true, false, false, false, true, false, false] rfl rfl (one_of HT_.out (by kernel_rfl)) (by decide) (fun K hK => ?_)
                refine goes_ Try.func10 (by kernel_rfl) rfl #[.agg #[.int .i64 a0_0, .int .i64 a0_1], .int .i64 a0_2, .agg #[.int .i64 t234, .int .i64 t235, .int .i64 t236, .int .i64 t237, .bool t238]] (by rfl) rfl rfl (by (try simp only [List.map_toArray, List.map_cons, List.map_nil]); first | done | rfl | (simp only [List.length_drop, List.length_take]; rfl)) ?_
                with_reducible refine (place_Cells.calls a0_0 a0_1 a0_2 t234 t235 t236 t237 t238 t239 t240 t241 t242 t243 _ A4.out).mono ?_
                rintro e w27 ⟨rfl, hb⟩
                refine ⟨_, rfl, ?_⟩
                have n0_ := Aside0.mk (blk_below (g := gb232) (o := .cells #[.int .i64 a0_0, .int .i64 a0_1, .int .i64 a0_2] 26 (0, 0)) (by (with_reducible repeat (first | refine bN ?_ _ | refine bD ?_ | refine bA ?_ _)); exact BK232.out) hb)
                have n1_ := Aside0.mk (blk_below (g := gb233) (o := .cells #[.int .i64 a1_0, .int .i64 a1_1, .int .i64 a1_2, .int .i64 a1_3, .bool true] 28 (0, 0)) (by (with_reducible repeat (first | refine bN ?_ _ | refine bD ?_ | refine bA ?_ _)); exact BK233.out) hb)
                have n2_ := Aside0.mk (blk_below (g := gb244) (o := .cells #[.int .i64 0, .int .i64 0, .int .i64 0, .int .i64 0] 33 (0, 0)) (by (with_reducible repeat (first | refine bN ?_ _ | refine bD ?_ | refine bA ?_ _)); exact BK244.out) hb)
                have n3_ := Aside0.mk (below_step (by repeat (first | (with_reducible first | exact HB.out | apply below_alloc | apply pw_below_drewN | apply below_drew1 | refine bS ?_ GE232.out | refine bS ?_ GE233.out | refine bS ?_ GE244.out) | exact HB.out)) hb)
                clear BK232
                clear BK233
                clear BK244
                clear HB
                have BK232 := n0_
                have BK233 := n1_
                have BK244 := n2_
                have HB := n3_
                clear n0_ n1_ n2_ n3_
                (try clear hb)
                (try clear hb2)
                (try clear hk)
                (try clear hi)
                refine hK.out _ _ ⟨(blk_cell BK232.out 0).trans rfl, (blk_cell BK232.out 1).trans rfl, (blk_cell BK232.out 2).trans rfl, (blk_cell BK233.out 0).trans rfl, (blk_cell BK233.out 1).trans rfl, (blk_cell BK233.out 2).trans rfl, (blk_cell BK233.out 3).trans rfl, (blk_cell BK233.out 4).trans rfl⟩ (fun hHeld => ?_)
                clear hK K
                refine norm_ (a' := ?_) ?_ ?_
                rotate_left
                ·show Act.put _ (some 21) _ = _
                 simp only [Act.put, List.setIfInBounds_toArray, List.set_cons_zero, List.set_cons_succ, i64_w, i32_w]
                 rfl
                refine pure_ (i := 7) (N := some 14) (v := ?_) (a' := ?_) #[true, true, true, true, true, true, true, true, false, false, true, false, false] rfl rfl (any_of HT_.out (by kernel_rfl)) (fun _ _ _ h => h) (Or.inl ⟨by rfl, ?_⟩) ?_ ?_
                rotate_left
                ·intro w'
                 go_simp
                 with_reducible rfl
                rotate_left
                ·simp only [Act.put, List.setIfInBounds_toArray, List.set_cons_zero, List.set_cons_succ, i64_w, i32_w]
                 rfl
                refine pure_ (i := 8) (N := some 22) (v := ?_) (a' := ?_) #[true, true, true, true, true, true, true, true, true, false, true, false, false] rfl rfl (any_of HT_.out (by kernel_rfl)) (fun _ _ _ h => h) (Or.inl ⟨by rfl, ?_⟩) ?_ ?_
                rotate_left
                ·intro w'
                 go_simp
                 with_reducible rfl
                rotate_left
                ·simp only [Act.put, List.setIfInBounds_toArray, List.set_cons_zero, List.set_cons_succ, i64_w, i32_w]
                 rfl
                refine pure_ (i := 9) (N := some 23) (v := ?_) (a' := ?_) #[true, true, true, true, true, true, true, true, true, true, true, false, false] rfl rfl (any_of HT_.out (by kernel_rfl)) (fun _ _ _ h => h) (Or.inl ⟨by rfl, ?_⟩) ?_ ?_
                rotate_left
                ·intro w'
                 go_simp
                 with_reducible rfl
                rotate_left
                ·simp only [Act.put, List.setIfInBounds_toArray, List.set_cons_zero, List.set_cons_succ, i64_w, i32_w]
                 rfl
                exact norm_ (by simp only [putAll, Act.put, List.setIfInBounds_toArray, List.set_cons_zero, List.set_cons_succ]) (hCont (gb244) _ ⟨hHeld, (by (with_reducible repeat (first | refine bN ?_ _ | refine bD ?_ | refine bA ?_ _)); exact BK232.out), (by (with_reducible repeat (first | refine bN ?_ _ | refine bD ?_ | refine bA ?_ _)); exact BK233.out), (by (with_reducible repeat (first | refine bN ?_ _ | refine bD ?_ | refine bA ?_ _)); exact BK244.out), GW244.out, GE244.out, NB232_244.out, NB244_232.out, NB233_244.out, NB244_233.out, (by repeat (first | (with_reducible first | exact HB.out | apply below_alloc | apply pw_below_drewN | apply below_drew1 | refine bS ?_ GE232.out | refine bS ?_ GE233.out | refine bS ?_ GE244.out) | exact HB.out))⟩)
              rintro gb244 w28 ⟨hS_, h0_, h1_, h2_, h3_, h4_, h5_, h6_, h7_, h8_, h9_⟩
              have n0_ : Aside0 (w28.heap[gb232]? = some (.cells #[.int .i64 a0_0, .int .i64 a0_1, .int .i64 a0_2] 26 (0, 0))) := ⟨h0_⟩
              have n1_ : Aside0 (w28.heap[gb233]? = some (.cells #[.int .i64 a1_0, .int .i64 a1_1, .int .i64 a1_2, .int .i64 a1_3, .bool true] 28 (0, 0))) := ⟨h1_⟩
              have n2_ : Aside0 (w28.heap[gb244]? = some (.cells #[.int .i64 0, .int .i64 0, .int .i64 0, .int .i64 0] 33 (0, 0))) := ⟨h2_⟩
              have n3_ : Aside0 (w.heap.size ≤ gb244) := ⟨h3_⟩
              have n4_ : Aside0 (w.heap.size ≤ gb244) := ⟨h4_⟩
              have n5_ : Aside0 (gb232 ≠ gb244) := ⟨h5_⟩
              have n6_ : Aside0 (gb244 ≠ gb232) := ⟨h6_⟩
              have n7_ : Aside0 (gb233 ≠ gb244) := ⟨h7_⟩
              have n8_ : Aside0 (gb244 ≠ gb233) := ⟨h8_⟩
              have n9_ : Aside0 (Below w.heap.size w w28) := ⟨h9_⟩
              clear BK232
              clear BK233
              clear HB
              clear h0_ h1_ h2_ h3_ h4_ h5_ h6_ h7_ h8_ h9_
              have BK232 := n0_
              have BK233 := n1_
              have BK244 := n2_
              have GW244 := n3_
              have GE244 := n4_
              have NB232_244 := n5_
              have NB244_232 := n6_
              have NB233_244 := n7_
              have NB244_233 := n8_
              have HB := n9_
              clear n0_ n1_ n2_ n3_ n4_ n5_ n6_ n7_ n8_ n9_
              have hHeld : w28.cell? ⟨gb232, 0, none⟩ = some (.int .i64 a0_0) ∧ w28.cell? ⟨gb232, 1, none⟩ = some (.int .i64 a0_1) ∧ w28.cell? ⟨gb232, 2, none⟩ = some (.int .i64 a0_2) ∧ w28.cell? ⟨gb233, 0, none⟩ = some (.int .i64 a1_0) ∧ w28.cell? ⟨gb233, 1, none⟩ = some (.int .i64 a1_1) ∧ w28.cell? ⟨gb233, 2, none⟩ = some (.int .i64 a1_2) ∧ w28.cell? ⟨gb233, 3, none⟩ = some (.int .i64 a1_3) ∧ w28.cell? ⟨gb233, 4, none⟩ = some (.bool true) := hS_
              refine norm_ (a' := ?_) ?_ ?_
              rotate_left
              ·simp only [putAll, Act.put, List.setIfInBounds_toArray, List.set_cons_zero, List.set_cons_succ]
               rfl
              refine one_ (i := 11) (N := none) #[true, true, true, true, true, true, true, true, true, true, true, true, false] rfl rfl (one_of HT_.out (by kernel_rfl)) (by decide) (fun K hK => ?_)
              have hs29 := cI BK244.out 0 rfl
              have hfs29 := bF BK244.out 0
              have hns29_0 := NB232_244.out
              have hns29_1 := NB233_244.out
              have hms29_0 := NB244_232.out
              have hms29_1 := NB244_233.out
              have hs30 := cI BK244.out 1 rfl
              have hfs30 := bF BK244.out 1
              have hns30_0 := NB232_244.out
              have hns30_1 := NB233_244.out
              have hms30_0 := NB244_232.out
              have hms30_1 := NB244_233.out
              have hs31 := cI BK244.out 2 rfl
              have hfs31 := bF BK244.out 2
              have hns31_0 := NB232_244.out
              have hns31_1 := NB233_244.out
              have hms31_0 := NB244_232.out
              have hms31_1 := NB244_233.out
              have hs32 := cI BK244.out 3 rfl
              have hfs32 := bF BK244.out 3
              have hns32_0 := NB232_244.out
              have hns32_1 := NB233_244.out
              have hms32_0 := NB244_232.out
              have hms32_1 := NB244_233.out
              refine skip_ (w1 := ?_) (by rfl) rfl ?_ ?_
              rotate_left
              ·go_simp
               rfl
              refine hK.out _ _ ⟨((cell_far (p := ⟨gb244, _, none⟩) NB232_244.out _).trans (((cell_far (p := ⟨gb244, _, none⟩) NB232_244.out _).trans (((cell_far (p := ⟨gb244, _, none⟩) NB232_244.out _).trans (((cell_far (p := ⟨gb244, _, none⟩) NB232_244.out _).trans (hHeld.1)))))))), ((cell_far (p := ⟨gb244, _, none⟩) NB232_244.out _).trans (((cell_far (p := ⟨gb244, _, none⟩) NB232_244.out _).trans (((cell_far (p := ⟨gb244, _, none⟩) NB232_244.out _).trans (((cell_far (p := ⟨gb244, _, none⟩) NB232_244.out _).trans (hHeld.2.1)))))))), ((cell_far (p := ⟨gb244, _, none⟩) NB232_244.out _).trans (((cell_far (p := ⟨gb244, _, none⟩) NB232_244.out _).trans (((cell_far (p := ⟨gb244, _, none⟩) NB232_244.out _).trans (((cell_far (p := ⟨gb244, _, none⟩) NB232_244.out _).trans (hHeld.2.2.1)))))))), ((cell_far (p := ⟨gb244, _, none⟩) NB233_244.out _).trans (((cell_far (p := ⟨gb244, _, none⟩) NB233_244.out _).trans (((cell_far (p := ⟨gb244, _, none⟩) NB233_244.out _).trans (((cell_far (p := ⟨gb244, _, none⟩) NB233_244.out _).trans (hHeld.2.2.2.1)))))))), ((cell_far (p := ⟨gb244, _, none⟩) NB233_244.out _).trans (((cell_far (p := ⟨gb244, _, none⟩) NB233_244.out _).trans (((cell_far (p := ⟨gb244, _, none⟩) NB233_244.out _).trans (((cell_far (p := ⟨gb244, _, none⟩) NB233_244.out _).trans (hHeld.2.2.2.2.1)))))))), ((cell_far (p := ⟨gb244, _, none⟩) NB233_244.out _).trans (((cell_far (p := ⟨gb244, _, none⟩) NB233_244.out _).trans (((cell_far (p := ⟨gb244, _, none⟩) NB233_244.out _).trans (((cell_far (p := ⟨gb244, _, none⟩) NB233_244.out _).trans (hHeld.2.2.2.2.2.1)))))))), ((cell_far (p := ⟨gb244, _, none⟩) NB233_244.out _).trans (((cell_far (p := ⟨gb244, _, none⟩) NB233_244.out _).trans (((cell_far (p := ⟨gb244, _, none⟩) NB233_244.out _).trans (((cell_far (p := ⟨gb244, _, none⟩) NB233_244.out _).trans (hHeld.2.2.2.2.2.2.1)))))))), ((cell_far (p := ⟨gb244, _, none⟩) NB233_244.out _).trans (((cell_far (p := ⟨gb244, _, none⟩) NB233_244.out _).trans (((cell_far (p := ⟨gb244, _, none⟩) NB233_244.out _).trans (((cell_far (p := ⟨gb244, _, none⟩) NB233_244.out _).trans (hHeld.2.2.2.2.2.2.2))))))))⟩ (fun hHeld => ?_)
              clear hK K
              refine pure_ (i := 12) (N := some 6) (v := ?_) (a' := ?_) #[true, true, true, true, true, true, true, true, true, true, true, true, true] rfl rfl (any_of HT_.out (by kernel_rfl)) (fun _ _ _ h => h) (Or.inl ⟨by rfl, ?_⟩) ?_ ?_
              rotate_left
              ·intro w'
               go_simp
               with_reducible rfl
              rotate_left
              ·simp only [Act.put, List.setIfInBounds_toArray, List.set_cons_zero, List.set_cons_succ, i64_w, i32_w]
               rfl
              refine done_ (done_of HT_.out (by kernel_rfl)) ?_
              have hnb33 := NB232_233.out
              have hnc33 := NB233_232.out
              have hnb34 := NB232_244.out
              have hnc34 := NB244_232.out
              have hcz35_0 := cI BK232.out 0 rfl
              have hcz35_1 := cI BK232.out 1 rfl
              have hcz35_2 := cI BK232.out 2 rfl
              have hfz35_0 := bF BK232.out 0
              have hfz35_1 := bF BK232.out 1
              have hfz35_2 := bF BK232.out 2
              try go_wp2_with (first | ((with_reducible refine gate_callee (f := 8) rfl ?_); refine goesL_ (some 32) rfl rfl Try.func8 (by kernel_rfl) rfl #[.agg #[.int .i64 a0_0, .int .i64 a0_1], .int .i64 a0_2] rfl (by (try simp only [List.map_toArray, List.map_cons, List.map_nil]); first | done | rfl | (simp only [List.length_drop, List.length_take]; rfl)) ?_; (with_reducible refine (place_Sides.calls a0_0 a0_1 a0_2 t246 t247 t248 _ A6.out).mono ?_); rintro e w36 ⟨rfl, hb⟩; refine ⟨_, rfl, ?_⟩; have n0_ := Aside0.mk (blk_below (g := gb232) (o := .cells #[.int .i64 a0_0, .int .i64 a0_1, .int .i64 a0_2] 26 (0, 0)) (by (with_reducible repeat (first | refine bN ?_ _ | refine bD ?_ | refine bA ?_ _)); refine blk_far ?_ NB232_244.out _; (with_reducible repeat (first | refine bN ?_ _ | refine bD ?_ | refine bA ?_ _)); refine blk_far ?_ NB232_244.out _; (with_reducible repeat (first | refine bN ?_ _ | refine bD ?_ | refine bA ?_ _)); refine blk_far ?_ NB232_244.out _; (with_reducible repeat (first | refine bN ?_ _ | refine bD ?_ | refine bA ?_ _)); refine blk_far ?_ NB232_244.out _; (with_reducible repeat (first | refine bN ?_ _ | refine bD ?_ | refine bA ?_ _)); exact BK232.out) hb); have n1_ := Aside0.mk (blk_below (g := gb233) (o := .cells #[.int .i64 a1_0, .int .i64 a1_1, .int .i64 a1_2, .int .i64 a1_3, .bool true] 28 (0, 0)) (by (with_reducible repeat (first | refine bN ?_ _ | refine bD ?_ | refine bA ?_ _)); refine blk_far ?_ NB233_244.out _; (with_reducible repeat (first | refine bN ?_ _ | refine bD ?_ | refine bA ?_ _)); refine blk_far ?_ NB233_244.out _; (with_reducible repeat (first | refine bN ?_ _ | refine bD ?_ | refine bA ?_ _)); refine blk_far ?_ NB233_244.out _; (with_reducible repeat (first | refine bN ?_ _ | refine bD ?_ | refine bA ?_ _)); refine blk_far ?_ NB233_244.out _; (with_reducible repeat (first | refine bN ?_ _ | refine bD ?_ | refine bA ?_ _)); exact BK233.out) hb); have n2_ := Aside0.mk (blk_below (g := gb244) (o := .cells #[.int .i64 t239, .int .i64 t240, .int .i64 t241, .int .i64 t242] 33 (0, 0)) (by (with_reducible repeat (first | refine bN ?_ _ | refine bD ?_ | refine bA ?_ _)); refine blk_put (cs := #[.int .i64 t239, .int .i64 t240, .int .i64 t241, .int .i64 0]) ?_ 3 _ rfl; (with_reducible repeat (first | refine bN ?_ _ | refine bD ?_ | refine bA ?_ _)); refine blk_put (cs := #[.int .i64 t239, .int .i64 t240, .int .i64 0, .int .i64 0]) ?_ 2 _ rfl; (with_reducible repeat (first | refine bN ?_ _ | refine bD ?_ | refine bA ?_ _)); refine blk_put (cs := #[.int .i64 t239, .int .i64 0, .int .i64 0, .int .i64 0]) ?_ 1 _ rfl; (with_reducible repeat (first | refine bN ?_ _ | refine bD ?_ | refine bA ?_ _)); refine blk_put (cs := #[.int .i64 0, .int .i64 0, .int .i64 0, .int .i64 0]) ?_ 0 _ rfl; (with_reducible repeat (first | refine bN ?_ _ | refine bD ?_ | refine bA ?_ _)); exact BK244.out) hb); have n3_ := Aside0.mk (below_step (by repeat (first | (with_reducible first | exact HB.out | apply below_alloc | apply pw_below_drewN | apply below_drew1 | refine bS ?_ GE232.out | refine bS ?_ GE233.out | refine bS ?_ GE244.out) | exact HB.out)) hb); clear BK232; clear BK233; clear BK244; clear HB; have BK232 := n0_; have BK233 := n1_; have BK244 := n2_; have HB := n3_; clear n0_ n1_ n2_ n3_; (try clear hb); (try clear hb2); (try clear hk); (try clear hi); have hcz37_0 := cI BK232.out 0 rfl; have hcz37_1 := cI BK232.out 1 rfl; have hcz37_2 := cI BK232.out 2 rfl; have hfz37_0 := bF BK232.out 0; have hfz37_1 := bF BK232.out 1; have hfz37_2 := bF BK232.out 2; have hnb38 := NB244_233.out; have hnc38 := NB233_244.out; have hcz39_0 := cI BK244.out 0 rfl; have hcz39_1 := cI BK244.out 1 rfl; have hcz39_2 := cI BK244.out 2 rfl; have hcz39_3 := cI BK244.out 3 rfl; have hfz39_0 := bF BK244.out 0; have hfz39_1 := bF BK244.out 1; have hfz39_2 := bF BK244.out 2; have hfz39_3 := bF BK244.out 3; have hcz40_0 := cI BK233.out 0 rfl; have hcz40_1 := cI BK233.out 1 rfl; have hcz40_2 := cI BK233.out 2 rfl; have hcz40_3 := cI BK233.out 3 rfl; have hcz40_4 := cI BK233.out 4 rfl; have hfz40_0 := bF BK233.out 0; have hfz40_1 := bF BK233.out 1; have hfz40_2 := bF BK233.out 2; have hfz40_3 := bF BK233.out 3; have hfz40_4 := bF BK233.out 4) | ((with_reducible refine gate_callee (f := 14) rfl ?_); refine goesL_ (some 44) rfl rfl Try.func14 (by kernel_rfl) rfl #[.agg #[.int .i64 a0_0, .int .i64 a0_1], .int .i64 a0_2, .agg #[.int .i64 t239, .int .i64 t240, .int .i64 t241, .int .i64 t242], .bool true] rfl (by (try simp only [List.map_toArray, List.map_cons, List.map_nil]); first | done | rfl | (simp only [List.length_drop, List.length_take]; rfl)) ?_; (with_reducible refine (place_Of.calls a0_0 a0_1 a0_2 t239 t240 t241 t242 true t249 t250 t251 t252 t253 t254 _ A7.out).mono ?_); rintro e w41 ⟨rfl, hb⟩; refine ⟨_, rfl, ?_⟩; have n0_ := Aside0.mk (blk_below (g := gb232) (o := .cells #[.int .i64 a0_0, .int .i64 a0_1, .int .i64 a0_2] 26 (0, 0)) (by (with_reducible repeat (first | refine bN ?_ _ | refine bD ?_ | refine bA ?_ _)); exact BK232.out) hb); have n1_ := Aside0.mk (blk_below (g := gb233) (o := .cells #[.int .i64 a1_0, .int .i64 a1_1, .int .i64 a1_2, .int .i64 a1_3, .bool true] 28 (0, 0)) (by (with_reducible repeat (first | refine bN ?_ _ | refine bD ?_ | refine bA ?_ _)); exact BK233.out) hb); have n2_ := Aside0.mk (blk_below (g := gb244) (o := .cells #[.int .i64 t239, .int .i64 t240, .int .i64 t241, .int .i64 t242] 33 (0, 0)) (by (with_reducible repeat (first | refine bN ?_ _ | refine bD ?_ | refine bA ?_ _)); exact BK244.out) hb); have n3_ := Aside0.mk (below_step (by repeat (first | (with_reducible first | exact HB.out | apply below_alloc | apply pw_below_drewN | apply below_drew1 | refine bS ?_ GE232.out | refine bS ?_ GE233.out | refine bS ?_ GE244.out) | exact HB.out)) hb); clear BK232; clear BK233; clear BK244; clear HB; have BK232 := n0_; have BK233 := n1_; have BK244 := n2_; have HB := n3_; clear n0_ n1_ n2_ n3_; (try clear hb); (try clear hb2); (try clear hk); (try clear hi)) | ((with_reducible refine gate_dst (N := 10) rfl ?_); refine box_event ?hg (N := 10) ?hd (cs := #[.int .i64 0, .int .i64 0, .int .i64 0, .int .i64 0, .bool false]) (t := 36) ?hr ?_; (case hd => rfl); (case hg => rfl); (case hr => first | (go_simp; done) | (go_simp; rfl)); intro gb255 hg w42 hbox hb; have n0_ := Aside0.mk (blk_below (g := gb232) (o := .cells #[.int .i64 a0_0, .int .i64 a0_1, .int .i64 a0_2] 26 (0, 0)) (by (with_reducible repeat (first | refine bN ?_ _ | refine bD ?_ | refine bA ?_ _)); exact BK232.out) hb); have n1_ := Aside0.mk (blk_below (g := gb233) (o := .cells #[.int .i64 a1_0, .int .i64 a1_1, .int .i64 a1_2, .int .i64 a1_3, .bool true] 28 (0, 0)) (by (with_reducible repeat (first | refine bN ?_ _ | refine bD ?_ | refine bA ?_ _)); exact BK233.out) hb); have n2_ := Aside0.mk (blk_below (g := gb244) (o := .cells #[.int .i64 t239, .int .i64 t240, .int .i64 t241, .int .i64 t242] 33 (0, 0)) (by (with_reducible repeat (first | refine bN ?_ _ | refine bD ?_ | refine bA ?_ _)); exact BK244.out) hb); have n3_ := Aside0.mk (below_step (by repeat (first | (with_reducible first | exact HB.out | apply below_alloc | apply pw_below_drewN | apply below_drew1 | refine bS ?_ GE232.out | refine bS ?_ GE233.out | refine bS ?_ GE244.out) | exact HB.out)) hb); have n4_ := Aside0.mk (hbox); have n5_ := Aside0.mk ((by rw [hg]; exact (below_size (by repeat (first | (with_reducible first | exact HB.out | apply below_alloc | apply pw_below_drewN | apply below_drew1 | refine bS ?_ GE232.out | refine bS ?_ GE233.out | refine bS ?_ GE244.out) | exact HB.out))) : w.heap.size ≤ gb255)); have n6_ := Aside0.mk ((by rw [hg]; exact (below_size (by repeat (first | (with_reducible first | exact HB.out | apply below_alloc | apply pw_below_drewN | apply below_drew1 | refine bS ?_ GE232.out | refine bS ?_ GE233.out | refine bS ?_ GE244.out) | exact HB.out))) : w.heap.size ≤ gb255)); have n7_ := Aside0.mk ((by rw [hg]; exact Nat.ne_of_lt (blk_lt (g := gb232) (o := .cells #[.int .i64 a0_0, .int .i64 a0_1, .int .i64 a0_2] 26 (0, 0)) (by (with_reducible repeat (first | refine bN ?_ _ | refine bD ?_ | refine bA ?_ _)); exact BK232.out)) : gb232 ≠ gb255)); have n8_ := Aside0.mk ((by rw [hg]; exact Nat.ne_of_gt (blk_lt (g := gb232) (o := .cells #[.int .i64 a0_0, .int .i64 a0_1, .int .i64 a0_2] 26 (0, 0)) (by (with_reducible repeat (first | refine bN ?_ _ | refine bD ?_ | refine bA ?_ _)); exact BK232.out)) : gb255 ≠ gb232)); have n9_ := Aside0.mk ((by rw [hg]; exact Nat.ne_of_lt (blk_lt (g := gb233) (o := .cells #[.int .i64 a1_0, .int .i64 a1_1, .int .i64 a1_2, .int .i64 a1_3, .bool true] 28 (0, 0)) (by (with_reducible repeat (first | refine bN ?_ _ | refine bD ?_ | refine bA ?_ _)); exact BK233.out)) : gb233 ≠ gb255)); have n10_ := Aside0.mk ((by rw [hg]; exact Nat.ne_of_gt (blk_lt (g := gb233) (o := .cells #[.int .i64 a1_0, .int .i64 a1_1, .int .i64 a1_2, .int .i64 a1_3, .bool true] 28 (0, 0)) (by (with_reducible repeat (first | refine bN ?_ _ | refine bD ?_ | refine bA ?_ _)); exact BK233.out)) : gb255 ≠ gb233)); have n11_ := Aside0.mk ((by rw [hg]; exact Nat.ne_of_lt (blk_lt (g := gb244) (o := .cells #[.int .i64 t239, .int .i64 t240, .int .i64 t241, .int .i64 t242] 33 (0, 0)) (by (with_reducible repeat (first | refine bN ?_ _ | refine bD ?_ | refine bA ?_ _)); exact BK244.out)) : gb244 ≠ gb255)); have n12_ := Aside0.mk ((by rw [hg]; exact Nat.ne_of_gt (blk_lt (g := gb244) (o := .cells #[.int .i64 t239, .int .i64 t240, .int .i64 t241, .int .i64 t242] 33 (0, 0)) (by (with_reducible repeat (first | refine bN ?_ _ | refine bD ?_ | refine bA ?_ _)); exact BK244.out)) : gb255 ≠ gb244)); clear BK232; clear BK233; clear BK244; clear HB; have BK232 := n0_; have BK233 := n1_; have BK244 := n2_; have HB := n3_; have BK255 := n4_; have GW255 := n5_; have GE255 := n6_; have NB232_255 := n7_; have NB255_232 := n8_; have NB233_255 := n9_; have NB255_233 := n10_; have NB244_255 := n11_; have NB255_244 := n12_; clear n0_ n1_ n2_ n3_ n4_ n5_ n6_ n7_ n8_ n9_ n10_ n11_ n12_; clear hb hbox hg; have hnb43 := NB255_232.out; have hnc43 := NB232_255.out; have hnb44 := NB255_233.out; have hnc44 := NB233_255.out; have hnb45 := NB255_244.out; have hnc45 := NB244_255.out; have hcz46_0 := cI BK255.out 0 rfl; have hcz46_1 := cI BK255.out 1 rfl; have hcz46_2 := cI BK255.out 2 rfl; have hcz46_3 := cI BK255.out 3 rfl; have hcz46_4 := cI BK255.out 4 rfl; have hfz46_0 := bF BK255.out 0; have hfz46_1 := bF BK255.out 1; have hfz46_2 := bF BK255.out 2; have hfz46_3 := bF BK255.out 3; have hfz46_4 := bF BK255.out 4; have hcz47_0 := cI BK233.out 0 rfl; have hcz47_1 := cI BK233.out 1 rfl; have hcz47_2 := cI BK233.out 2 rfl; have hcz47_3 := cI BK233.out 3 rfl; have hcz47_4 := cI BK233.out 4 rfl; have hfz47_0 := bF BK233.out 0; have hfz47_1 := bF BK233.out 1; have hfz47_2 := bF BK233.out 2; have hfz47_3 := bF BK233.out 3; have hfz47_4 := bF BK233.out 4) | ((with_reducible refine gate_callee (f := 11) rfl ?_); refine goesL_ (some 48) rfl rfl Try.func11 (by kernel_rfl) rfl #[.agg #[.int .i64 a1_0, .int .i64 a1_1, .int .i64 a1_2, .int .i64 a1_3, .bool true]] rfl (by (try simp only [List.map_toArray, List.map_cons, List.map_nil]); first | done | rfl | (simp only [List.length_drop, List.length_take]; rfl)) ?_; (with_reducible refine (frisketlaw19_box.calls a1_0 a1_1 a1_2 a1_3 true t256 t257 t258 t259 t260 _ A8.out).mono ?_); rintro e w48 ⟨rfl, hb⟩; refine ⟨_, rfl, ?_⟩; have n0_ := Aside0.mk (blk_below (g := gb232) (o := .cells #[.int .i64 a0_0, .int .i64 a0_1, .int .i64 a0_2] 26 (0, 0)) (by (with_reducible repeat (first | refine bN ?_ _ | refine bD ?_ | refine bA ?_ _)); refine blk_far ?_ NB232_255.out _; (with_reducible repeat (first | refine bN ?_ _ | refine bD ?_ | refine bA ?_ _)); refine blk_far ?_ NB232_255.out _; (with_reducible repeat (first | refine bN ?_ _ | refine bD ?_ | refine bA ?_ _)); refine blk_far ?_ NB232_255.out _; (with_reducible repeat (first | refine bN ?_ _ | refine bD ?_ | refine bA ?_ _)); refine blk_far ?_ NB232_255.out _; (with_reducible repeat (first | refine bN ?_ _ | refine bD ?_ | refine bA ?_ _)); refine blk_far ?_ NB232_255.out _; (with_reducible repeat (first | refine bN ?_ _ | refine bD ?_ | refine bA ?_ _)); exact BK232.out) hb); have n1_ := Aside0.mk (blk_below (g := gb233) (o := .cells #[.int .i64 a1_0, .int .i64 a1_1, .int .i64 a1_2, .int .i64 a1_3, .bool true] 28 (0, 0)) (by (with_reducible repeat (first | refine bN ?_ _ | refine bD ?_ | refine bA ?_ _)); refine blk_far ?_ NB233_255.out _; (with_reducible repeat (first | refine bN ?_ _ | refine bD ?_ | refine bA ?_ _)); refine blk_far ?_ NB233_255.out _; (with_reducible repeat (first | refine bN ?_ _ | refine bD ?_ | refine bA ?_ _)); refine blk_far ?_ NB233_255.out _; (with_reducible repeat (first | refine bN ?_ _ | refine bD ?_ | refine bA ?_ _)); refine blk_far ?_ NB233_255.out _; (with_reducible repeat (first | refine bN ?_ _ | refine bD ?_ | refine bA ?_ _)); refine blk_far ?_ NB233_255.out _; (with_reducible repeat (first | refine bN ?_ _ | refine bD ?_ | refine bA ?_ _)); exact BK233.out) hb); have n2_ := Aside0.mk (blk_below (g := gb244) (o := .cells #[.int .i64 t239, .int .i64 t240, .int .i64 t241, .int .i64 t242] 33 (0, 0)) (by (with_reducible repeat (first | refine bN ?_ _ | refine bD ?_ | refine bA ?_ _)); refine blk_far ?_ NB244_255.out _; (with_reducible repeat (first | refine bN ?_ _ | refine bD ?_ | refine bA ?_ _)); refine blk_far ?_ NB244_255.out _; (with_reducible repeat (first | refine bN ?_ _ | refine bD ?_ | refine bA ?_ _)); refine blk_far ?_ NB244_255.out _; (with_reducible repeat (first | refine bN ?_ _ | refine bD ?_ | refine bA ?_ _)); refine blk_far ?_ NB244_255.out _; (with_reducible repeat (first | refine bN ?_ _ | refine bD ?_ | refine bA ?_ _)); refine blk_far ?_ NB244_255.out _; (with_reducible repeat (first | refine bN ?_ _ | refine bD ?_ | refine bA ?_ _)); exact BK244.out) hb); have n3_ := Aside0.mk (blk_below (g := gb255) (o := .cells #[.int .i64 t249, .int .i64 t250, .int .i64 t251, .int .i64 t252, .bool t253] 36 (0, 0)) (by (with_reducible repeat (first | refine bN ?_ _ | refine bD ?_ | refine bA ?_ _)); refine blk_put (cs := #[.int .i64 t249, .int .i64 t250, .int .i64 t251, .int .i64 t252, .bool false]) ?_ 4 _ rfl; (with_reducible repeat (first | refine bN ?_ _ | refine bD ?_ | refine bA ?_ _)); refine blk_put (cs := #[.int .i64 t249, .int .i64 t250, .int .i64 t251, .int .i64 0, .bool false]) ?_ 3 _ rfl; (with_reducible repeat (first | refine bN ?_ _ | refine bD ?_ | refine bA ?_ _)); refine blk_put (cs := #[.int .i64 t249, .int .i64 t250, .int .i64 0, .int .i64 0, .bool false]) ?_ 2 _ rfl; (with_reducible repeat (first | refine bN ?_ _ | refine bD ?_ | refine bA ?_ _)); refine blk_put (cs := #[.int .i64 t249, .int .i64 0, .int .i64 0, .int .i64 0, .bool false]) ?_ 1 _ rfl; (with_reducible repeat (first | refine bN ?_ _ | refine bD ?_ | refine bA ?_ _)); refine blk_put (cs := #[.int .i64 0, .int .i64 0, .int .i64 0, .int .i64 0, .bool false]) ?_ 0 _ rfl; (with_reducible repeat (first | refine bN ?_ _ | refine bD ?_ | refine bA ?_ _)); exact BK255.out) hb); have n4_ := Aside0.mk (below_step (by repeat (first | (with_reducible first | exact HB.out | apply below_alloc | apply pw_below_drewN | apply below_drew1 | refine bS ?_ GE232.out | refine bS ?_ GE233.out | refine bS ?_ GE244.out | refine bS ?_ GE255.out) | exact HB.out)) hb); clear BK232; clear BK233; clear BK244; clear BK255; clear HB; have BK232 := n0_; have BK233 := n1_; have BK244 := n2_; have BK255 := n3_; have HB := n4_; clear n0_ n1_ n2_ n3_ n4_; (try clear hb); (try clear hb2); (try clear hk); (try clear hi)) | ((with_reducible refine gate_dst (N := 12) rfl ?_); refine box_event ?hg (N := 12) ?hd (cs := #[.int .i64 0, .int .i64 0, .int .i64 0, .int .i64 0, .bool false]) (t := 36) ?hr ?_; (case hd => rfl); (case hg => rfl); (case hr => first | (go_simp; done) | (go_simp; rfl)); intro gb261 hg w49 hbox hb; have n0_ := Aside0.mk (blk_below (g := gb232) (o := .cells #[.int .i64 a0_0, .int .i64 a0_1, .int .i64 a0_2] 26 (0, 0)) (by (with_reducible repeat (first | refine bN ?_ _ | refine bD ?_ | refine bA ?_ _)); exact BK232.out) hb); have n1_ := Aside0.mk (blk_below (g := gb233) (o := .cells #[.int .i64 a1_0, .int .i64 a1_1, .int .i64 a1_2, .int .i64 a1_3, .bool true] 28 (0, 0)) (by (with_reducible repeat (first | refine bN ?_ _ | refine bD ?_ | refine bA ?_ _)); exact BK233.out) hb); have n2_ := Aside0.mk (blk_below (g := gb244) (o := .cells #[.int .i64 t239, .int .i64 t240, .int .i64 t241, .int .i64 t242] 33 (0, 0)) (by (with_reducible repeat (first | refine bN ?_ _ | refine bD ?_ | refine bA ?_ _)); exact BK244.out) hb); have n3_ := Aside0.mk (blk_below (g := gb255) (o := .cells #[.int .i64 t249, .int .i64 t250, .int .i64 t251, .int .i64 t252, .bool t253] 36 (0, 0)) (by (with_reducible repeat (first | refine bN ?_ _ | refine bD ?_ | refine bA ?_ _)); exact BK255.out) hb); have n4_ := Aside0.mk (below_step (by repeat (first | (with_reducible first | exact HB.out | apply below_alloc | apply pw_below_drewN | apply below_drew1 | refine bS ?_ GE232.out | refine bS ?_ GE233.out | refine bS ?_ GE244.out | refine bS ?_ GE255.out) | exact HB.out)) hb); have n5_ := Aside0.mk (hbox); have n6_ := Aside0.mk ((by rw [hg]; exact (below_size (by repeat (first | (with_reducible first | exact HB.out | apply below_alloc | apply pw_below_drewN | apply below_drew1 | refine bS ?_ GE232.out | refine bS ?_ GE233.out | refine bS ?_ GE244.out | refine bS ?_ GE255.out) | exact HB.out))) : w.heap.size ≤ gb261)); have n7_ := Aside0.mk ((by rw [hg]; exact (below_size (by repeat (first | (with_reducible first | exact HB.out | apply below_alloc | apply pw_below_drewN | apply below_drew1 | refine bS ?_ GE232.out | refine bS ?_ GE233.out | refine bS ?_ GE244.out | refine bS ?_ GE255.out) | exact HB.out))) : w.heap.size ≤ gb261)); have n8_ := Aside0.mk ((by rw [hg]; exact Nat.ne_of_lt (blk_lt (g := gb232) (o := .cells #[.int .i64 a0_0, .int .i64 a0_1, .int .i64 a0_2] 26 (0, 0)) (by (with_reducible repeat (first | refine bN ?_ _ | refine bD ?_ | refine bA ?_ _)); exact BK232.out)) : gb232 ≠ gb261)); have n9_ := Aside0.mk ((by rw [hg]; exact Nat.ne_of_gt (blk_lt (g := gb232) (o := .cells #[.int .i64 a0_0, .int .i64 a0_1, .int .i64 a0_2] 26 (0, 0)) (by (with_reducible repeat (first | refine bN ?_ _ | refine bD ?_ | refine bA ?_ _)); exact BK232.out)) : gb261 ≠ gb232)); have n10_ := Aside0.mk ((by rw [hg]; exact Nat.ne_of_lt (blk_lt (g := gb233) (o := .cells #[.int .i64 a1_0, .int .i64 a1_1, .int .i64 a1_2, .int .i64 a1_3, .bool true] 28 (0, 0)) (by (with_reducible repeat (first | refine bN ?_ _ | refine bD ?_ | refine bA ?_ _)); exact BK233.out)) : gb233 ≠ gb261)); have n11_ := Aside0.mk ((by rw [hg]; exact Nat.ne_of_gt (blk_lt (g := gb233) (o := .cells #[.int .i64 a1_0, .int .i64 a1_1, .int .i64 a1_2, .int .i64 a1_3, .bool true] 28 (0, 0)) (by (with_reducible repeat (first | refine bN ?_ _ | refine bD ?_ | refine bA ?_ _)); exact BK233.out)) : gb261 ≠ gb233)); have n12_ := Aside0.mk ((by rw [hg]; exact Nat.ne_of_lt (blk_lt (g := gb244) (o := .cells #[.int .i64 t239, .int .i64 t240, .int .i64 t241, .int .i64 t242] 33 (0, 0)) (by (with_reducible repeat (first | refine bN ?_ _ | refine bD ?_ | refine bA ?_ _)); exact BK244.out)) : gb244 ≠ gb261)); have n13_ := Aside0.mk ((by rw [hg]; exact Nat.ne_of_gt (blk_lt (g := gb244) (o := .cells #[.int .i64 t239, .int .i64 t240, .int .i64 t241, .int .i64 t242] 33 (0, 0)) (by (with_reducible repeat (first | refine bN ?_ _ | refine bD ?_ | refine bA ?_ _)); exact BK244.out)) : gb261 ≠ gb244)); have n14_ := Aside0.mk ((by rw [hg]; exact Nat.ne_of_lt (blk_lt (g := gb255) (o := .cells #[.int .i64 t249, .int .i64 t250, .int .i64 t251, .int .i64 t252, .bool t253] 36 (0, 0)) (by (with_reducible repeat (first | refine bN ?_ _ | refine bD ?_ | refine bA ?_ _)); exact BK255.out)) : gb255 ≠ gb261)); have n15_ := Aside0.mk ((by rw [hg]; exact Nat.ne_of_gt (blk_lt (g := gb255) (o := .cells #[.int .i64 t249, .int .i64 t250, .int .i64 t251, .int .i64 t252, .bool t253] 36 (0, 0)) (by (with_reducible repeat (first | refine bN ?_ _ | refine bD ?_ | refine bA ?_ _)); exact BK255.out)) : gb261 ≠ gb255)); clear BK232; clear BK233; clear BK244; clear BK255; clear HB; have BK232 := n0_; have BK233 := n1_; have BK244 := n2_; have BK255 := n3_; have HB := n4_; have BK261 := n5_; have GW261 := n6_; have GE261 := n7_; have NB232_261 := n8_; have NB261_232 := n9_; have NB233_261 := n10_; have NB261_233 := n11_; have NB244_261 := n12_; have NB261_244 := n13_; have NB255_261 := n14_; have NB261_255 := n15_; clear n0_ n1_ n2_ n3_ n4_ n5_ n6_ n7_ n8_ n9_ n10_ n11_ n12_ n13_ n14_ n15_; clear hb hbox hg; have hnb50 := NB261_232.out; have hnc50 := NB232_261.out; have hnb51 := NB261_233.out; have hnc51 := NB233_261.out; have hnb52 := NB261_244.out; have hnc52 := NB244_261.out; have hnb53 := NB261_255.out; have hnc53 := NB255_261.out; have hcz54_0 := cI BK261.out 0 rfl; have hcz54_1 := cI BK261.out 1 rfl; have hcz54_2 := cI BK261.out 2 rfl; have hcz54_3 := cI BK261.out 3 rfl; have hcz54_4 := cI BK261.out 4 rfl; have hfz54_0 := bF BK261.out 0; have hfz54_1 := bF BK261.out 1; have hfz54_2 := bF BK261.out 2; have hfz54_3 := bF BK261.out 3; have hfz54_4 := bF BK261.out 4; have hcz55_0 := cI BK233.out 0 rfl; have hcz55_1 := cI BK233.out 1 rfl; have hcz55_2 := cI BK233.out 2 rfl; have hcz55_3 := cI BK233.out 3 rfl; have hcz55_4 := cI BK233.out 4 rfl; have hfz55_0 := bF BK233.out 0; have hfz55_1 := bF BK233.out 1; have hfz55_2 := bF BK233.out 2; have hfz55_3 := bF BK233.out 3; have hfz55_4 := bF BK233.out 4; have hcz56_0 := cI BK232.out 0 rfl; have hcz56_1 := cI BK232.out 1 rfl; have hcz56_2 := cI BK232.out 2 rfl; have hfz56_0 := bF BK232.out 0; have hfz56_1 := bF BK232.out 1; have hfz56_2 := bF BK232.out 2; have hcz57_0 := cI BK244.out 0 rfl; have hcz57_1 := cI BK244.out 1 rfl; have hcz57_2 := cI BK244.out 2 rfl; have hcz57_3 := cI BK244.out 3 rfl; have hfz57_0 := bF BK244.out 0; have hfz57_1 := bF BK244.out 1; have hfz57_2 := bF BK244.out 2; have hfz57_3 := bF BK244.out 3) | ((with_reducible refine gate_callee (f := 13) rfl ?_); refine goesL_ (some 93) rfl rfl Try.func13 (by kernel_rfl) rfl #[] rfl (by (try simp only [List.map_toArray, List.map_cons, List.map_nil]); first | done | rfl | (simp only [List.length_drop, List.length_take]; rfl)) ?_; (with_reducible refine (frisketlaw19_alive.calls  true _ A15.out).mono ?_); rintro e w58 ⟨rfl, hb⟩; refine ⟨_, rfl, ?_⟩; have n0_ := Aside0.mk (blk_below (g := gb232) (o := .cells #[.int .i64 a0_0, .int .i64 a0_1, .int .i64 a0_2] 26 (0, 0)) (by (with_reducible repeat (first | refine bN ?_ _ | refine bD ?_ | refine bA ?_ _)); refine blk_far ?_ NB232_261.out _; (with_reducible repeat (first | refine bN ?_ _ | refine bD ?_ | refine bA ?_ _)); refine blk_far ?_ NB232_261.out _; (with_reducible repeat (first | refine bN ?_ _ | refine bD ?_ | refine bA ?_ _)); refine blk_far ?_ NB232_261.out _; (with_reducible repeat (first | refine bN ?_ _ | refine bD ?_ | refine bA ?_ _)); refine blk_far ?_ NB232_261.out _; (with_reducible repeat (first | refine bN ?_ _ | refine bD ?_ | refine bA ?_ _)); refine blk_far ?_ NB232_261.out _; (with_reducible repeat (first | refine bN ?_ _ | refine bD ?_ | refine bA ?_ _)); refine blk_far ?_ NB232_261.out _; (with_reducible repeat (first | refine bN ?_ _ | refine bD ?_ | refine bA ?_ _)); exact BK232.out) hb); have n1_ := Aside0.mk (blk_below (g := gb233) (o := .cells #[.int .i64 a1_0, .int .i64 a1_1, .int .i64 a1_2, .int .i64 a1_3, .bool true] 28 (0, 0)) (by (with_reducible repeat (first | refine bN ?_ _ | refine bD ?_ | refine bA ?_ _)); refine blk_far ?_ NB233_261.out _; (with_reducible repeat (first | refine bN ?_ _ | refine bD ?_ | refine bA ?_ _)); refine blk_far ?_ NB233_261.out _; (with_reducible repeat (first | refine bN ?_ _ | refine bD ?_ | refine bA ?_ _)); refine blk_far ?_ NB233_261.out _; (with_reducible repeat (first | refine bN ?_ _ | refine bD ?_ | refine bA ?_ _)); refine blk_far ?_ NB233_261.out _; (with_reducible repeat (first | refine bN ?_ _ | refine bD ?_ | refine bA ?_ _)); refine blk_far ?_ NB233_261.out _; (with_reducible repeat (first | refine bN ?_ _ | refine bD ?_ | refine bA ?_ _)); refine blk_far ?_ NB233_261.out _; (with_reducible repeat (first | refine bN ?_ _ | refine bD ?_ | refine bA ?_ _)); exact BK233.out) hb); have n2_ := Aside0.mk (blk_below (g := gb244) (o := .cells #[.int .i64 t239, .int .i64 t240, .int .i64 t241, .int .i64 t242] 33 (0, 0)) (by (with_reducible repeat (first | refine bN ?_ _ | refine bD ?_ | refine bA ?_ _)); refine blk_far ?_ NB244_261.out _; (with_reducible repeat (first | refine bN ?_ _ | refine bD ?_ | refine bA ?_ _)); refine blk_far ?_ NB244_261.out _; (with_reducible repeat (first | refine bN ?_ _ | refine bD ?_ | refine bA ?_ _)); refine blk_far ?_ NB244_261.out _; (with_reducible repeat (first | refine bN ?_ _ | refine bD ?_ | refine bA ?_ _)); refine blk_far ?_ NB244_261.out _; (with_reducible repeat (first | refine bN ?_ _ | refine bD ?_ | refine bA ?_ _)); refine blk_far ?_ NB244_261.out _; (with_reducible repeat (first | refine bN ?_ _ | refine bD ?_ | refine bA ?_ _)); refine blk_far ?_ NB244_261.out _; (with_reducible repeat (first | refine bN ?_ _ | refine bD ?_ | refine bA ?_ _)); exact BK244.out) hb); have n3_ := Aside0.mk (blk_below (g := gb255) (o := .cells #[.int .i64 t249, .int .i64 t250, .int .i64 t251, .int .i64 t252, .bool t253] 36 (0, 0)) (by (with_reducible repeat (first | refine bN ?_ _ | refine bD ?_ | refine bA ?_ _)); refine blk_far ?_ NB255_261.out _; (with_reducible repeat (first | refine bN ?_ _ | refine bD ?_ | refine bA ?_ _)); refine blk_far ?_ NB255_261.out _; (with_reducible repeat (first | refine bN ?_ _ | refine bD ?_ | refine bA ?_ _)); refine blk_far ?_ NB255_261.out _; (with_reducible repeat (first | refine bN ?_ _ | refine bD ?_ | refine bA ?_ _)); refine blk_far ?_ NB255_261.out _; (with_reducible repeat (first | refine bN ?_ _ | refine bD ?_ | refine bA ?_ _)); refine blk_far ?_ NB255_261.out _; (with_reducible repeat (first | refine bN ?_ _ | refine bD ?_ | refine bA ?_ _)); refine blk_far ?_ NB255_261.out _; (with_reducible repeat (first | refine bN ?_ _ | refine bD ?_ | refine bA ?_ _)); exact BK255.out) hb); have n4_ := Aside0.mk (blk_below (g := gb261) (o := .cells #[.int .i64 t256, .int .i64 t257, .int .i64 t258, .int .i64 t259, .bool (a0_2 == 3)] 36 (0, 0)) (by (with_reducible repeat (first | refine bN ?_ _ | refine bD ?_ | refine bA ?_ _)); refine blk_put (cs := #[.int .i64 t256, .int .i64 t257, .int .i64 t258, .int .i64 t259, .bool t260]) ?_ 4 _ rfl; (with_reducible repeat (first | refine bN ?_ _ | refine bD ?_ | refine bA ?_ _)); refine blk_put (cs := #[.int .i64 t256, .int .i64 t257, .int .i64 t258, .int .i64 t259, .bool false]) ?_ 4 _ rfl; (with_reducible repeat (first | refine bN ?_ _ | refine bD ?_ | refine bA ?_ _)); refine blk_put (cs := #[.int .i64 t256, .int .i64 t257, .int .i64 t258, .int .i64 0, .bool false]) ?_ 3 _ rfl; (with_reducible repeat (first | refine bN ?_ _ | refine bD ?_ | refine bA ?_ _)); refine blk_put (cs := #[.int .i64 t256, .int .i64 t257, .int .i64 0, .int .i64 0, .bool false]) ?_ 2 _ rfl; (with_reducible repeat (first | refine bN ?_ _ | refine bD ?_ | refine bA ?_ _)); refine blk_put (cs := #[.int .i64 t256, .int .i64 0, .int .i64 0, .int .i64 0, .bool false]) ?_ 1 _ rfl; (with_reducible repeat (first | refine bN ?_ _ | refine bD ?_ | refine bA ?_ _)); refine blk_put (cs := #[.int .i64 0, .int .i64 0, .int .i64 0, .int .i64 0, .bool false]) ?_ 0 _ rfl; (with_reducible repeat (first | refine bN ?_ _ | refine bD ?_ | refine bA ?_ _)); exact BK261.out) hb); have n5_ := Aside0.mk (below_step (by repeat (first | (with_reducible first | exact HB.out | apply below_alloc | apply pw_below_drewN | apply below_drew1 | refine bS ?_ GE232.out | refine bS ?_ GE233.out | refine bS ?_ GE244.out | refine bS ?_ GE255.out | refine bS ?_ GE261.out) | exact HB.out)) hb); clear BK232; clear BK233; clear BK244; clear BK255; clear BK261; clear HB; have BK232 := n0_; have BK233 := n1_; have BK244 := n2_; have BK255 := n3_; have BK261 := n4_; have HB := n5_; clear n0_ n1_ n2_ n3_ n4_ n5_; (try clear hb); (try clear hb2); (try clear hk); (try clear hi); have hcz59_0 := cI BK255.out 0 rfl; have hcz59_1 := cI BK255.out 1 rfl; have hcz59_2 := cI BK255.out 2 rfl; have hcz59_3 := cI BK255.out 3 rfl; have hcz59_4 := cI BK255.out 4 rfl; have hfz59_0 := bF BK255.out 0; have hfz59_1 := bF BK255.out 1; have hfz59_2 := bF BK255.out 2; have hfz59_3 := bF BK255.out 3; have hfz59_4 := bF BK255.out 4; have hcz60_0 := cI BK261.out 0 rfl; have hcz60_1 := cI BK261.out 1 rfl; have hcz60_2 := cI BK261.out 2 rfl; have hcz60_3 := cI BK261.out 3 rfl; have hcz60_4 := cI BK261.out 4 rfl; have hfz60_0 := bF BK261.out 0; have hfz60_1 := bF BK261.out 1; have hfz60_2 := bF BK261.out 2; have hfz60_3 := bF BK261.out 3; have hfz60_4 := bF BK261.out 4; have hcz61_0 := cI BK244.out 0 rfl; have hcz61_1 := cI BK244.out 1 rfl; have hcz61_2 := cI BK244.out 2 rfl; have hcz61_3 := cI BK244.out 3 rfl; have hfz61_0 := bF BK244.out 0; have hfz61_1 := bF BK244.out 1; have hfz61_2 := bF BK244.out 2; have hfz61_3 := bF BK244.out 3; have hcz62_0 := cI BK233.out 0 rfl; have hcz62_1 := cI BK233.out 1 rfl; have hcz62_2 := cI BK233.out 2 rfl; have hcz62_3 := cI BK233.out 3 rfl; have hcz62_4 := cI BK233.out 4 rfl; have hfz62_0 := bF BK233.out 0; have hfz62_1 := bF BK233.out 1; have hfz62_2 := bF BK233.out 2; have hfz62_3 := bF BK233.out 3; have hfz62_4 := bF BK233.out 4; have hcz63_0 := cI BK232.out 0 rfl; have hcz63_1 := cI BK232.out 1 rfl; have hcz63_2 := cI BK232.out 2 rfl; have hfz63_0 := bF BK232.out 0; have hfz63_1 := bF BK232.out 1; have hfz63_2 := bF BK232.out 2))
              go_ret
              exact ⟨by first | rfl | (simp [errW_none, errW_some] <;> rfl) | (simp [*, errW_none, errW_some] <;> rfl), by repeat (first | (with_reducible first | exact HB.out | apply below_alloc | apply pw_below_drewN | apply below_drew1 | refine bS ?_ GE232.out | refine bS ?_ GE233.out | refine bS ?_ GE244.out | refine bS ?_ GE255.out | refine bS ?_ GE261.out) | exact HB.out)⟩
             ·rw [if_neg c21] at H
              have c21b0 : ((wrap64 (t241 * t242)) == (wrap64 (a1_1 * a1_3))) = false := beq_eq_false_iff_ne.mpr c21
              have c21b1 : ((wrap64 (t241 * t242)) != (wrap64 (a1_1 * a1_3))) = true := bne_iff_ne.mpr c21
              exact af_absurd HRT.out H (by repeat (first | exact AF.none | exact AF.false | refine AF.ite ?_ ?_ | refine AF.bind (fun _ => ?_)))
            ·rw [if_neg c20] at H
             have c20b0 : decide ((wrap64 (t240 + t242)) ≤ t247) = false := decide_eq_false c20
             clear c20
             exact af_absurd HRT.out H (by repeat (first | exact AF.none | exact AF.false | refine AF.ite ?_ ?_ | refine AF.bind (fun _ => ?_)))
           ·rw [if_neg c19] at H
            have c19b0 : (t249 == t256 && (t250 == t257 && (t251 == t258 && (t252 == t259 && (t253 == (a0_2 == 3)))))) = false := by simpa using c19
            (try (have c19b1 : decide (t249 = t256 && (t250 == t257 && (t251 == t258 && (t252 == t259 && (t253 == (a0_2 == 3)))))) = false := by simpa using c19))
            (try (have c19b2 : (t249 == t256 && (t250 == t257 && (t251 == t258 && (t252 == t259 && (t253 == (a0_2 == 3)))))) = false := by simpa using c19))
            (try (have c19b3 : ¬ (t249 = t256 && (t250 == t257 && (t251 == t258 && (t252 == t259 && (t253 == (a0_2 == 3)))))) := by simpa using c19))
            clear c19
            exact af_absurd HRT.out H (by repeat (first | exact AF.none | exact AF.false | refine AF.ite ?_ ?_ | refine AF.bind (fun _ => ?_)))
          ·rw [if_neg c18] at H
           have c18b0 : (t254 == 0) = false := beq_eq_false_iff_ne.mpr c18
           have c18b1 : (t254 != 0) = true := bne_iff_ne.mpr c18
           exact af_absurd HRT.out H (by repeat (first | exact AF.none | exact AF.false | refine AF.ite ?_ ?_ | refine AF.bind (fun _ => ?_)))
         ·rw [if_neg c17] at H
          have c17b0 : (t248 == 0) = false := beq_eq_false_iff_ne.mpr c17
          have c17b1 : (t248 != 0) = true := bne_iff_ne.mpr c17
          exact af_absurd HRT.out H (by repeat (first | exact AF.none | exact AF.false | refine AF.ite ?_ ?_ | refine AF.bind (fun _ => ?_)))
        ·replace c16 := Bool.eq_false_iff.mpr c16
         subst c16
         have H1 : (some false) = some r := by rw [if_neg (show ¬ (false = true) by decide)] at H; exact H
         clear H
         have H := H1
         clear H1
         exact af_absurd HRT.out H (by repeat (first | exact AF.none | exact AF.false | refine AF.ite ?_ ?_ | refine AF.bind (fun _ => ?_)))
       ·rw [if_neg c14] at H
        have c14b0 : decide ((wrap64 (t239 + t241)) ≤ t246) = false := decide_eq_false c14
        clear c14
        exact af_absurd HRT.out H (by repeat (first | exact AF.none | exact AF.false | refine AF.ite ?_ ?_ | refine AF.bind (fun _ => ?_)))
      ·rw [if_neg c13] at H
       have c13b0 : decide (1 ≤ t242) = false := decide_eq_false c13
       clear c13
       exact af_absurd HRT.out H (by repeat (first | exact AF.none | exact AF.false | refine AF.ite ?_ ?_ | refine AF.bind (fun _ => ?_)))
     ·rw [if_neg c12] at H
      have c12b0 : decide (1 ≤ t241) = false := decide_eq_false c12
      clear c12
      exact af_absurd HRT.out H (by repeat (first | exact AF.none | exact AF.false | refine AF.ite ?_ ?_ | refine AF.bind (fun _ => ?_)))
    ·rw [if_neg c11] at H
     have c11b0 : decide (0 ≤ t240) = false := decide_eq_false c11
     clear c11
     exact af_absurd HRT.out H (by repeat (first | exact AF.none | exact AF.false | refine AF.ite ?_ ?_ | refine AF.bind (fun _ => ?_)))
   ·rw [if_neg c10] at H
    have c10b0 : decide (0 ≤ t239) = false := decide_eq_false c10
    clear c10
    exact af_absurd HRT.out H (by repeat (first | exact AF.none | exact AF.false | refine AF.ite ?_ ?_ | refine AF.bind (fun _ => ?_)))
  ·replace c9 := Bool.eq_false_iff.mpr c9
   subst c9
   have H1 : (if t239 ≥ 0 then (if t240 ≥ 0 then (if t241 ≥ 1 then (if t242 ≥ 1 then (if (wrap64 (t239 + t241)) ≤ t246 then ((frisketlaw19_alive.f).bind fun t268 => (if t268 = true then (if t248 = 0 then (if t254 = 0 then (if (t249 == t256 && (t250 == t257 && (t251 == t258 && (t252 == t259 && (!t253))))) = true then (if (wrap64 (t240 + t242)) ≤ t247 then (if (wrap64 (t241 * t242)) = (wrap64 (a1_1 * a1_3)) then (some ((wrap64 (t246 * t247)) == (wrap64 (a0_0 * a0_1)))) else (some false)) else (some false)) else (some false)) else (some false)) else (some false)) else (some false))) else ((frisketlaw19_alive.f).bind fun t269 => (if t269 = true then (if t248 = 0 then (if t254 = 0 then (if (t249 == t256 && (t250 == t257 && (t251 == t258 && (t252 == t259 && (!t253))))) = true then (some false) else (some false)) else (some false)) else (some false)) else (some false)))) else ((frisketlaw19_alive.f).bind fun t270 => (if t270 = true then (if t248 = 0 then (if t254 = 0 then (if (t249 == t256 && (t250 == t257 && (t251 == t258 && (t252 == t259 && (!t253))))) = true then (some false) else (some false)) else (some false)) else (some false)) else (some false)))) else ((frisketlaw19_alive.f).bind fun t271 => (if t271 = true then (if t248 = 0 then (if t254 = 0 then (if (t249 == t256 && (t250 == t257 && (t251 == t258 && (t252 == t259 && (!t253))))) = true then (some false) else (some false)) else (some false)) else (some false)) else (some false)))) else ((frisketlaw19_alive.f).bind fun t272 => (if t272 = true then (if t248 = 0 then (if t254 = 0 then (if (t249 == t256 && (t250 == t257 && (t251 == t258 && (t252 == t259 && (!t253))))) = true then (some false) else (some false)) else (some false)) else (some false)) else (some false)))) else ((frisketlaw19_alive.f).bind fun t273 => (if t273 = true then (if t248 = 0 then (if t254 = 0 then (if (t249 == t256 && (t250 == t257 && (t251 == t258 && (t252 == t259 && (!t253))))) = true then (some false) else (some false)) else (some false)) else (some false)) else (some false)))) = some r := by rw [if_neg (show ¬ (false = true) by decide)] at H; exact H
   clear H
   have H := H1
   clear H1
   by_cases c64 : t239 ≥ 0
   ·rw [if_pos c64] at H
    have c64b0 : decide (0 ≤ t239) = true := decide_eq_true c64
    clear c64
    by_cases c65 : t240 ≥ 0
    ·rw [if_pos c65] at H
     have c65b0 : decide (0 ≤ t240) = true := decide_eq_true c65
     clear c65
     by_cases c66 : t241 ≥ 1
     ·rw [if_pos c66] at H
      have c66b0 : decide (1 ≤ t241) = true := decide_eq_true c66
      clear c66
      by_cases c67 : t242 ≥ 1
      ·rw [if_pos c67] at H
       have c67b0 : decide (1 ≤ t242) = true := decide_eq_true c67
       clear c67
       by_cases c68 : (wrap64 (t239 + t241)) ≤ t246
       ·rw [if_pos c68] at H
        have c68b0 : decide ((wrap64 (t239 + t241)) ≤ t246) = true := decide_eq_true c68
        clear c68
        replace H := Option.bind_eq_some_iff.mp H
        obtain ⟨t268, A690, H⟩ := H
        replace H : (if t268 = true then (if t248 = 0 then (if t254 = 0 then (if (t249 == t256 && (t250 == t257 && (t251 == t258 && (t252 == t259 && (!t253))))) = true then (if (wrap64 (t240 + t242)) ≤ t247 then (if (wrap64 (t241 * t242)) = (wrap64 (a1_1 * a1_3)) then (some ((wrap64 (t246 * t247)) == (wrap64 (a0_0 * a0_1)))) else (some false)) else (some false)) else (some false)) else (some false)) else (some false)) else (some false)) = some r := H
        have A69 := Aside0.mk A690
        clear A690
        by_cases c70 : t268 = true
        ·subst c70
         have H1 : (if t248 = 0 then (if t254 = 0 then (if (t249 == t256 && (t250 == t257 && (t251 == t258 && (t252 == t259 && (!t253))))) = true then (if (wrap64 (t240 + t242)) ≤ t247 then (if (wrap64 (t241 * t242)) = (wrap64 (a1_1 * a1_3)) then (some ((wrap64 (t246 * t247)) == (wrap64 (a0_0 * a0_1)))) else (some false)) else (some false)) else (some false)) else (some false)) else (some false)) = some r := by rw [if_pos rfl] at H; exact H
         clear H
         have H := H1
         clear H1
         by_cases c71 : t248 = 0
         ·rw [if_pos c71] at H
          have c71b0 : (t248 == 0) = true := beq_iff_eq.mpr c71
          have c71b1 : (t248 != 0) = false := bne_eq_false_iff_eq.mpr c71
          clear c71
          by_cases c72 : t254 = 0
          ·rw [if_pos c72] at H
           have c72b0 : (t254 == 0) = true := beq_iff_eq.mpr c72
           have c72b1 : (t254 != 0) = false := bne_eq_false_iff_eq.mpr c72
           clear c72
           by_cases c73 : (t249 == t256 && (t250 == t257 && (t251 == t258 && (t252 == t259 && (!t253))))) = true
           ·rw [if_pos c73] at H
            have c73b0 : (t249 == t256 && (t250 == t257 && (t251 == t258 && (t252 == t259 && (!t253))))) = true := c73
            (try (have c73b1 : decide (t249 = t256 && (t250 == t257 && (t251 == t258 && (t252 == t259 && (!t253))))) = true := by simpa using c73))
            (try (have c73b2 : (t249 == t256 && (t250 == t257 && (t251 == t258 && (t252 == t259 && (!t253))))) = true := by simpa using c73))
            clear c73
            by_cases c74 : (wrap64 (t240 + t242)) ≤ t247
            ·rw [if_pos c74] at H
             have c74b0 : decide ((wrap64 (t240 + t242)) ≤ t247) = true := decide_eq_true c74
             clear c74
             by_cases c75 : (wrap64 (t241 * t242)) = (wrap64 (a1_1 * a1_3))
             ·rw [if_pos c75] at H
              have c75b0 : ((wrap64 (t241 * t242)) == (wrap64 (a1_1 * a1_3))) = true := beq_iff_eq.mpr c75
              have c75b1 : ((wrap64 (t241 * t242)) != (wrap64 (a1_1 * a1_3))) = false := bne_eq_false_iff_eq.mpr c75
              clear c75
              obtain rfl := Option.some.inj H
              go_enter Try.func5, Try.ntmps5
              try go_wp2_with (first | ((with_reducible refine gate_dst (N := 2) rfl ?_); refine box_event ?hg (N := 2) ?hd (cs := #[.int .i64 a0_0, .int .i64 a0_1, .int .i64 a0_2]) (t := 26) ?hr ?_; (case hd => rfl); (case hg => rfl); (case hr => first | (go_simp; done) | (go_simp; rfl)); intro gb232 hg w76 hbox hb; have n0_ := Aside0.mk (below_step (by repeat (first | (with_reducible first | exact HB.out | apply below_alloc | apply pw_below_drewN | apply below_drew1) | exact HB.out)) hb); have n1_ := Aside0.mk (hbox); have n2_ := Aside0.mk ((by rw [hg]; exact (below_size (by repeat (first | (with_reducible first | exact HB.out | apply below_alloc | apply pw_below_drewN | apply below_drew1) | exact HB.out))) : w.heap.size ≤ gb232)); have n3_ := Aside0.mk ((by rw [hg]; exact (below_size (by repeat (first | (with_reducible first | exact HB.out | apply below_alloc | apply pw_below_drewN | apply below_drew1) | exact HB.out))) : w.heap.size ≤ gb232)); clear HB; have HB := n0_; have BK232 := n1_; have GW232 := n2_; have GE232 := n3_; clear n0_ n1_ n2_ n3_; clear hb hbox hg) | ((with_reducible refine gate_dst (N := 3) rfl ?_); refine box_event ?hg (N := 3) ?hd (cs := #[.int .i64 a1_0, .int .i64 a1_1, .int .i64 a1_2, .int .i64 a1_3, .bool false]) (t := 28) ?hr ?_; (case hd => rfl); (case hg => rfl); (case hr => first | (go_simp; done) | (go_simp; rfl)); intro gb233 hg w77 hbox hb; have n0_ := Aside0.mk (blk_below (g := gb232) (o := .cells #[.int .i64 a0_0, .int .i64 a0_1, .int .i64 a0_2] 26 (0, 0)) (by (with_reducible repeat (first | refine bN ?_ _ | refine bD ?_ | refine bA ?_ _)); exact BK232.out) hb); have n1_ := Aside0.mk (below_step (by repeat (first | (with_reducible first | exact HB.out | apply below_alloc | apply pw_below_drewN | apply below_drew1 | refine bS ?_ GE232.out) | exact HB.out)) hb); have n2_ := Aside0.mk (hbox); have n3_ := Aside0.mk ((by rw [hg]; exact (below_size (by repeat (first | (with_reducible first | exact HB.out | apply below_alloc | apply pw_below_drewN | apply below_drew1 | refine bS ?_ GE232.out) | exact HB.out))) : w.heap.size ≤ gb233)); have n4_ := Aside0.mk ((by rw [hg]; exact (below_size (by repeat (first | (with_reducible first | exact HB.out | apply below_alloc | apply pw_below_drewN | apply below_drew1 | refine bS ?_ GE232.out) | exact HB.out))) : w.heap.size ≤ gb233)); have n5_ := Aside0.mk ((by rw [hg]; exact Nat.ne_of_lt (blk_lt (g := gb232) (o := .cells #[.int .i64 a0_0, .int .i64 a0_1, .int .i64 a0_2] 26 (0, 0)) (by (with_reducible repeat (first | refine bN ?_ _ | refine bD ?_ | refine bA ?_ _)); exact BK232.out)) : gb232 ≠ gb233)); have n6_ := Aside0.mk ((by rw [hg]; exact Nat.ne_of_gt (blk_lt (g := gb232) (o := .cells #[.int .i64 a0_0, .int .i64 a0_1, .int .i64 a0_2] 26 (0, 0)) (by (with_reducible repeat (first | refine bN ?_ _ | refine bD ?_ | refine bA ?_ _)); exact BK232.out)) : gb233 ≠ gb232)); clear BK232; clear HB; have BK232 := n0_; have HB := n1_; have BK233 := n2_; have GW233 := n3_; have GE233 := n4_; have NB232_233 := n5_; have NB233_232 := n6_; clear n0_ n1_ n2_ n3_ n4_ n5_ n6_; clear hb hbox hg))
              have n0_ := Aside0.mk (blk_drew BK232.out)
              have n1_ := Aside0.mk (blk_drew BK233.out)
              have n2_ := Aside0.mk (below_drew1 HB.out)
              clear BK232
              clear BK233
              clear HB
              have BK232 := n0_
              have BK233 := n1_
              have HB := n2_
              clear n0_ n1_ n2_
              refine start_ (n := 13) (S := fun w' => w'.cell? ⟨gb232, 0, none⟩ = some (.int .i64 a0_0) ∧ w'.cell? ⟨gb232, 1, none⟩ = some (.int .i64 a0_1) ∧ w'.cell? ⟨gb232, 2, none⟩ = some (.int .i64 a0_2) ∧ w'.cell? ⟨gb233, 0, none⟩ = some (.int .i64 a1_0) ∧ w'.cell? ⟨gb233, 1, none⟩ = some (.int .i64 a1_1) ∧ w'.cell? ⟨gb233, 2, none⟩ = some (.int .i64 a1_2) ∧ w'.cell? ⟨gb233, 3, none⟩ = some (.int .i64 a1_3) ∧ w'.cell? ⟨gb233, 4, none⟩ = some (.bool false)) (ds := []) #[false, false, false, false, false, false, false, false, false, false, false, false, false] (by kernel_rfl) rfl rfl ⟨(blk_cell BK232.out 0).trans rfl, (blk_cell BK232.out 1).trans rfl, (blk_cell BK232.out 2).trans rfl, (blk_cell BK233.out 0).trans rfl, (blk_cell BK233.out 1).trans rfl, (blk_cell BK233.out 2).trans rfl, (blk_cell BK233.out 3).trans rfl, (blk_cell BK233.out 4).trans rfl⟩ (fun hHeld => ?_); refine with_tabW frisketlaw19_PlaceRound.tab1 frisketlaw19_PlaceRound.bits1 (fun HT_ HW_ => ?_)
              generalize w77.drew = w78 at BK232 BK233 HB hHeld ⊢
              refine pure_ (i := 0) (N := some 15) (v := ?_) (a' := ?_) #[true, false, false, false, false, false, false, false, false, false, false, false, false] rfl rfl (any_of HT_.out (by kernel_rfl)) (fun _ _ _ h => h) (Or.inl ⟨by rfl, ?_⟩) ?_ ?_
              rotate_left
              ·intro w'
               go_simp
               with_reducible rfl
              rotate_left
              ·simp only [Act.put, List.setIfInBounds_toArray, List.set_cons_zero, List.set_cons_succ, i64_w, i32_w]
               rfl
              refine pure_ (i := 2) (N := some 17) (v := ?_) (a' := ?_) #[true, false, true, false, false, false, false, false, false, false, false, false, false] rfl rfl (any_of HT_.out (by kernel_rfl)) (fun _ _ _ h => h) (Or.inl ⟨by rfl, ?_⟩) ?_ ?_
              rotate_left
              ·intro w'
               go_simp
               with_reducible rfl
              rotate_left
              ·simp only [Act.put, List.setIfInBounds_toArray, List.set_cons_zero, List.set_cons_succ, i64_w, i32_w]
               rfl
              refine take_ (i := 1) (N := some 16) (v := ?_) (a' := ?_) #[true, true, true, false, false, false, false, false, false, false, false, false, false] rfl rfl (take_ofW HT_.out HW_.out (by kernel_rfl)) (fun _ _ _ h => h) (Or.inl ⟨by rfl, ?_⟩) hHeld ?_ ?_
              rotate_left
              ·rintro w' ⟨s0, s1, s2, s3, s4, s5, s6, s7⟩
               go_simp
               with_reducible rfl
              rotate_left
              ·simp only [Act.put, List.setIfInBounds_toArray, List.set_cons_zero, List.set_cons_succ, i64_w, i32_w]
               rfl
              refine take_ (i := 3) (N := some 18) (v := ?_) (a' := ?_) #[true, true, true, true, false, false, false, false, false, false, false, false, false] rfl rfl (take_ofW HT_.out HW_.out (by kernel_rfl)) (fun _ _ _ h => h) (Or.inl ⟨by rfl, ?_⟩) hHeld ?_ ?_
              rotate_left
              ·rintro w' ⟨s0, s1, s2, s3, s4, s5, s6, s7⟩
               go_simp
               with_reducible rfl
              rotate_left
              ·simp only [Act.put, List.setIfInBounds_toArray, List.set_cons_zero, List.set_cons_succ, i64_w, i32_w]
               rfl
              refine take_ (i := 4) (N := some 19) (v := ?_) (a' := ?_) #[true, true, true, true, true, false, false, false, false, false, false, false, false] rfl rfl (take_ofW HT_.out HW_.out (by kernel_rfl)) (fun _ _ _ h => h) (Or.inl ⟨by rfl, ?_⟩) hHeld ?_ ?_
              rotate_left
              ·rintro w' ⟨s0, s1, s2, s3, s4, s5, s6, s7⟩
               go_simp
               with_reducible rfl
              rotate_left
              ·simp only [Act.put, List.setIfInBounds_toArray, List.set_cons_zero, List.set_cons_succ, i64_w, i32_w]
               rfl
              refine join_ (σ := Nat) 2 #[true, true, true, true, true, true, true, true, true, true, true, false, false] (fun s_ => [(20, .agg #[.int .i64 t234, .int .i64 t235, .int .i64 t236, .int .i64 t237, .bool t238]), (21, .tuple #[.agg #[.int .i64 t239, .int .i64 t240, .int .i64 t241, .int .i64 t242], .int .i64 t243]), (5, .pointer (some ⟨s_, 0, none⟩)), (14, .tuple #[.agg #[.int .i64 t239, .int .i64 t240, .int .i64 t241, .int .i64 t242], .int .i64 t243]), (22, .agg #[.int .i64 t239, .int .i64 t240, .int .i64 t241, .int .i64 t242]), (23, .int .i64 t243)]) (fun s_ w' => (w'.cell? ⟨gb232, 0, none⟩ = some (.int .i64 a0_0) ∧ w'.cell? ⟨gb232, 1, none⟩ = some (.int .i64 a0_1) ∧ w'.cell? ⟨gb232, 2, none⟩ = some (.int .i64 a0_2) ∧ w'.cell? ⟨gb233, 0, none⟩ = some (.int .i64 a1_0) ∧ w'.cell? ⟨gb233, 1, none⟩ = some (.int .i64 a1_1) ∧ w'.cell? ⟨gb233, 2, none⟩ = some (.int .i64 a1_2) ∧ w'.cell? ⟨gb233, 3, none⟩ = some (.int .i64 a1_3) ∧ w'.cell? ⟨gb233, 4, none⟩ = some (.bool false)) ∧ (w'.heap[gb232]? = some (.cells #[.int .i64 a0_0, .int .i64 a0_1, .int .i64 a0_2] 26 (0, 0))) ∧ (w'.heap[gb233]? = some (.cells #[.int .i64 a1_0, .int .i64 a1_1, .int .i64 a1_2, .int .i64 a1_3, .bool false] 28 (0, 0))) ∧ (w'.heap[s_]? = some (.cells #[.int .i64 0, .int .i64 0, .int .i64 0, .int .i64 0] 33 (0, 0))) ∧ (w.heap.size ≤ s_) ∧ (w.heap.size ≤ s_) ∧ (gb232 ≠ s_) ∧ (s_ ≠ gb232) ∧ (gb233 ≠ s_) ∧ (s_ ≠ gb233) ∧ (Below w.heap.size w w')) ?_ ?_
              rotate_left
              ·intro hCont
               refine two_ (i := 5) (j := 10) (Ni := some 20) (Nj := some 5) #[true, true, true, true, true, true, false, false, false, false, false, false, false] #[true, true, true, true, true, false, false, false, false, false, true, false, false] rfl rfl rfl rfl (two_of HT_.out (by kernel_rfl)) (by decide) (by decide) (fun K hK => ?_) (fun K hK => ?_)
               ·skip
                refine goes_ Try.func11 (by kernel_rfl) rfl #[.agg #[.int .i64 a1_0, .int .i64 a1_1, .int .i64 a1_2, .int .i64 a1_3, .bool false]] (by rfl) rfl rfl (by (try simp only [List.map_toArray, List.map_cons, List.map_nil]); first | done | rfl | (simp only [List.length_drop, List.length_take]; rfl)) ?_
                with_reducible refine (frisketlaw19_box.calls a1_0 a1_1 a1_2 a1_3 false t234 t235 t236 t237 t238 _ A3.out).mono ?_
                rintro e w79 ⟨rfl, hb⟩
                refine ⟨_, rfl, ?_⟩
                have n0_ := Aside0.mk (blk_below (g := gb232) (o := .cells #[.int .i64 a0_0, .int .i64 a0_1, .int .i64 a0_2] 26 (0, 0)) (by (with_reducible repeat (first | refine bN ?_ _ | refine bD ?_ | refine bA ?_ _)); exact BK232.out) hb)
                have n1_ := Aside0.mk (blk_below (g := gb233) (o := .cells #[.int .i64 a1_0, .int .i64 a1_1, .int .i64 a1_2, .int .i64 a1_3, .bool false] 28 (0, 0)) (by (with_reducible repeat (first | refine bN ?_ _ | refine bD ?_ | refine bA ?_ _)); exact BK233.out) hb)
                have n2_ := Aside0.mk (below_step (by repeat (first | (with_reducible first | exact HB.out | apply below_alloc | apply pw_below_drewN | apply below_drew1 | refine bS ?_ GE232.out | refine bS ?_ GE233.out) | exact HB.out)) hb)
                clear BK232
                clear BK233
                clear HB
                have BK232 := n0_
                have BK233 := n1_
                have HB := n2_
                clear n0_ n1_ n2_
                (try clear hb)
                (try clear hb2)
                (try clear hk)
                (try clear hi)
                refine hK.out _ _ ⟨(blk_cell BK232.out 0).trans rfl, (blk_cell BK232.out 1).trans rfl, (blk_cell BK232.out 2).trans rfl, (blk_cell BK233.out 0).trans rfl, (blk_cell BK233.out 1).trans rfl, (blk_cell BK233.out 2).trans rfl, (blk_cell BK233.out 3).trans rfl, (blk_cell BK233.out 4).trans rfl⟩ (fun hHeld => ?_)
                clear hK K
                refine norm_ (a' := ?_) ?_ ?_
                rotate_left
                ·show Act.put _ (some 20) _ = _
                 simp only [Act.put, List.setIfInBounds_toArray, List.set_cons_zero, List.set_cons_succ, i64_w, i32_w]
                 rfl
                refine two_ (i := 6) (j := 10) (Ni := some 21) (Nj := some 5) #[true, true, true, true, true, true, true, false, false, false, false, false, false] #[true, true, true, true, true, true, false, false, false, false, true, false, false] rfl rfl rfl rfl (two_of HT_.out (by kernel_rfl)) (by decide) (by decide) (fun K hK => ?_) (fun K hK => ?_)
                ·skip
                 refine goes_ Try.func10 (by kernel_rfl) rfl #[.agg #[.int .i64 a0_0, .int .i64 a0_1], .int .i64 a0_2, .agg #[.int .i64 t234, .int .i64 t235, .int .i64 t236, .int .i64 t237, .bool t238]] (by rfl) rfl rfl (by (try simp only [List.map_toArray, List.map_cons, List.map_nil]); first | done | rfl | (simp only [List.length_drop, List.length_take]; rfl)) ?_
                 with_reducible refine (place_Cells.calls a0_0 a0_1 a0_2 t234 t235 t236 t237 t238 t239 t240 t241 t242 t243 _ A4.out).mono ?_
                 rintro e w80 ⟨rfl, hb⟩
                 refine ⟨_, rfl, ?_⟩
                 have n0_ := Aside0.mk (blk_below (g := gb232) (o := .cells #[.int .i64 a0_0, .int .i64 a0_1, .int .i64 a0_2] 26 (0, 0)) (by (with_reducible repeat (first | refine bN ?_ _ | refine bD ?_ | refine bA ?_ _)); exact BK232.out) hb)
                 have n1_ := Aside0.mk (blk_below (g := gb233) (o := .cells #[.int .i64 a1_0, .int .i64 a1_1, .int .i64 a1_2, .int .i64 a1_3, .bool false] 28 (0, 0)) (by (with_reducible repeat (first | refine bN ?_ _ | refine bD ?_ | refine bA ?_ _)); exact BK233.out) hb)
                 have n2_ := Aside0.mk (below_step (by repeat (first | (with_reducible first | exact HB.out | apply below_alloc | apply pw_below_drewN | apply below_drew1 | refine bS ?_ GE232.out | refine bS ?_ GE233.out) | exact HB.out)) hb)
                 clear BK232
                 clear BK233
                 clear HB
                 have BK232 := n0_
                 have BK233 := n1_
                 have HB := n2_
                 clear n0_ n1_ n2_
                 (try clear hb)
                 (try clear hb2)
                 (try clear hk)
                 (try clear hi)
                 refine hK.out _ _ ⟨(blk_cell BK232.out 0).trans rfl, (blk_cell BK232.out 1).trans rfl, (blk_cell BK232.out 2).trans rfl, (blk_cell BK233.out 0).trans rfl, (blk_cell BK233.out 1).trans rfl, (blk_cell BK233.out 2).trans rfl, (blk_cell BK233.out 3).trans rfl, (blk_cell BK233.out 4).trans rfl⟩ (fun hHeld => ?_)
                 clear hK K
                 refine norm_ (a' := ?_) ?_ ?_
                 rotate_left
                 ·show Act.put _ (some 21) _ = _
                  simp only [Act.put, List.setIfInBounds_toArray, List.set_cons_zero, List.set_cons_succ, i64_w, i32_w]
                  rfl
                 refine pure_ (i := 7) (N := some 14) (v := ?_) (a' := ?_) #[true, true, true, true, true, true, true, true, false, false, false, false, false] rfl rfl (any_of HT_.out (by kernel_rfl)) (fun _ _ _ h => h) (Or.inl ⟨by rfl, ?_⟩) ?_ ?_
                 rotate_left
                 ·intro w'
                  go_simp
                  with_reducible rfl
                 rotate_left
                 ·simp only [Act.put, List.setIfInBounds_toArray, List.set_cons_zero, List.set_cons_succ, i64_w, i32_w]
                  rfl
                 refine pure_ (i := 8) (N := some 22) (v := ?_) (a' := ?_) #[true, true, true, true, true, true, true, true, true, false, false, false, false] rfl rfl (any_of HT_.out (by kernel_rfl)) (fun _ _ _ h => h) (Or.inl ⟨by rfl, ?_⟩) ?_ ?_
                 rotate_left
                 ·intro w'
                  go_simp
                  with_reducible rfl
                 rotate_left
                 ·simp only [Act.put, List.setIfInBounds_toArray, List.set_cons_zero, List.set_cons_succ, i64_w, i32_w]
                  rfl
                 refine pure_ (i := 9) (N := some 23) (v := ?_) (a' := ?_) #[true, true, true, true, true, true, true, true, true, true, false, false, false] rfl rfl (any_of HT_.out (by kernel_rfl)) (fun _ _ _ h => h) (Or.inl ⟨by rfl, ?_⟩) ?_ ?_
                 rotate_left
                 ·intro w'
                  go_simp
                  with_reducible rfl
                 rotate_left
                 ·simp only [Act.put, List.setIfInBounds_toArray, List.set_cons_zero, List.set_cons_succ, i64_w, i32_w]
                  rfl
                 refine one_ (i := 10) (N := some 5) #[true, true, true, true, true, true, true, true, true, true, true, false, false] rfl rfl (one_of HT_.out (by kernel_rfl)) (by decide) (fun K hK => ?_)
                 refine box_step ?hg (N := 5) ?hd (cs := #[.int .i64 0, .int .i64 0, .int .i64 0, .int .i64 0]) (t := 33) ?hr ?_; (case hd => rfl); (case hg => rfl); (case hr => first | (go_simp; done) | (go_simp; rfl))
                 intro gb244 hg w81 hbox hb
                 have n0_ := Aside0.mk (blk_below (g := gb232) (o := .cells #[.int .i64 a0_0, .int .i64 a0_1, .int .i64 a0_2] 26 (0, 0)) (by (with_reducible repeat (first | refine bN ?_ _ | refine bD ?_ | refine bA ?_ _)); exact BK232.out) hb)
                 have n1_ := Aside0.mk (blk_below (g := gb233) (o := .cells #[.int .i64 a1_0, .int .i64 a1_1, .int .i64 a1_2, .int .i64 a1_3, .bool false] 28 (0, 0)) (by (with_reducible repeat (first | refine bN ?_ _ | refine bD ?_ | refine bA ?_ _)); exact BK233.out) hb)
                 have n2_ := Aside0.mk (below_step (by repeat (first | (with_reducible first | exact HB.out | apply below_alloc | apply pw_below_drewN | apply below_drew1 | refine bS ?_ GE232.out | refine bS ?_ GE233.out) | exact HB.out)) hb)
                 have n3_ := Aside0.mk (hbox)
                 have n4_ := Aside0.mk ((by rw [hg]; exact (below_size (by repeat (first | (with_reducible first | exact HB.out | apply below_alloc | apply pw_below_drewN | apply below_drew1 | refine bS ?_ GE232.out | refine bS ?_ GE233.out) | exact HB.out))) : w.heap.size ≤ gb244))
                 have n5_ := Aside0.mk ((by rw [hg]; exact (below_size (by repeat (first | (with_reducible first | exact HB.out | apply below_alloc | apply pw_below_drewN | apply below_drew1 | refine bS ?_ GE232.out | refine bS ?_ GE233.out) | exact HB.out))) : w.heap.size ≤ gb244))
                 have n6_ := Aside0.mk ((by rw [hg]; exact Nat.ne_of_lt (blk_lt (g := gb232) (o := .cells #[.int .i64 a0_0, .int .i64 a0_1, .int .i64 a0_2] 26 (0, 0)) (by (with_reducible repeat (first | refine bN ?_ _ | refine bD ?_ | refine bA ?_ _)); exact BK232.out)) : gb232 ≠ gb244))
                 have n7_ := Aside0.mk ((by rw [hg]; exact Nat.ne_of_gt (blk_lt (g := gb232) (o := .cells #[.int .i64 a0_0, .int .i64 a0_1, .int .i64 a0_2] 26 (0, 0)) (by (with_reducible repeat (first | refine bN ?_ _ | refine bD ?_ | refine bA ?_ _)); exact BK232.out)) : gb244 ≠ gb232))
                 have n8_ := Aside0.mk ((by rw [hg]; exact Nat.ne_of_lt (blk_lt (g := gb233) (o := .cells #[.int .i64 a1_0, .int .i64 a1_1, .int .i64 a1_2, .int .i64 a1_3, .bool false] 28 (0, 0)) (by (with_reducible repeat (first | refine bN ?_ _ | refine bD ?_ | refine bA ?_ _)); exact BK233.out)) : gb233 ≠ gb244))
                 have n9_ := Aside0.mk ((by rw [hg]; exact Nat.ne_of_gt (blk_lt (g := gb233) (o := .cells #[.int .i64 a1_0, .int .i64 a1_1, .int .i64 a1_2, .int .i64 a1_3, .bool false] 28 (0, 0)) (by (with_reducible repeat (first | refine bN ?_ _ | refine bD ?_ | refine bA ?_ _)); exact BK233.out)) : gb244 ≠ gb233))
                 clear BK232
                 clear BK233
                 clear HB
                 have BK232 := n0_
                 have BK233 := n1_
                 have HB := n2_
                 have BK244 := n3_
                 have GW244 := n4_
                 have GE244 := n5_
                 have NB232_244 := n6_
                 have NB244_232 := n7_
                 have NB233_244 := n8_
                 have NB244_233 := n9_
                 clear n0_ n1_ n2_ n3_ n4_ n5_ n6_ n7_ n8_ n9_
                 clear hb hbox hg
                 refine hK.out _ _ ⟨(blk_cell BK232.out 0).trans rfl, (blk_cell BK232.out 1).trans rfl, (blk_cell BK232.out 2).trans rfl, (blk_cell BK233.out 0).trans rfl, (blk_cell BK233.out 1).trans rfl, (blk_cell BK233.out 2).trans rfl, (blk_cell BK233.out 3).trans rfl, (blk_cell BK233.out 4).trans rfl⟩ (fun hHeld => ?_)
                 clear hK K
                 refine norm_ (a' := ?_) ?_ ?_
                 rotate_left
                 ·show Act.put _ (some 5) _ = _
                  simp only [Act.put, List.setIfInBounds_toArray, List.set_cons_zero, List.set_cons_succ, i64_w, i32_w]
                  rfl
                 exact norm_ (by simp only [putAll, Act.put, List.setIfInBounds_toArray, List.set_cons_zero, List.set_cons_succ]) (hCont (gb244) _ ⟨hHeld, (by (with_reducible repeat (first | refine bN ?_ _ | refine bD ?_ | refine bA ?_ _)); exact BK232.out), (by (with_reducible repeat (first | refine bN ?_ _ | refine bD ?_ | refine bA ?_ _)); exact BK233.out), (by (with_reducible repeat (first | refine bN ?_ _ | refine bD ?_ | refine bA ?_ _)); exact BK244.out), GW244.out, GE244.out, NB232_244.out, NB244_232.out, NB233_244.out, NB244_233.out, (by repeat (first | (with_reducible first | exact HB.out | apply below_alloc | apply pw_below_drewN | apply below_drew1 | refine bS ?_ GE232.out | refine bS ?_ GE233.out | refine bS ?_ GE244.out) | exact HB.out))⟩)
                ·skip
                 refine box_step ?hg (N := 5) ?hd (cs := #[.int .i64 0, .int .i64 0, .int .i64 0, .int .i64 0]) (t := 33) ?hr ?_; (case hd => rfl); (case hg => rfl); (case hr => first | (go_simp; done) | (go_simp; rfl))
                 intro gb244 hg w80 hbox hb
                 have n0_ := Aside0.mk (blk_below (g := gb232) (o := .cells #[.int .i64 a0_0, .int .i64 a0_1, .int .i64 a0_2] 26 (0, 0)) (by (with_reducible repeat (first | refine bN ?_ _ | refine bD ?_ | refine bA ?_ _)); exact BK232.out) hb)
                 have n1_ := Aside0.mk (blk_below (g := gb233) (o := .cells #[.int .i64 a1_0, .int .i64 a1_1, .int .i64 a1_2, .int .i64 a1_3, .bool false] 28 (0, 0)) (by (with_reducible repeat (first | refine bN ?_ _ | refine bD ?_ | refine bA ?_ _)); exact BK233.out) hb)
                 have n2_ := Aside0.mk (below_step (by repeat (first | (with_reducible first | exact HB.out | apply below_alloc | apply pw_below_drewN | apply below_drew1 | refine bS ?_ GE232.out | refine bS ?_ GE233.out) | exact HB.out)) hb)
                 have n3_ := Aside0.mk (hbox)
                 have n4_ := Aside0.mk ((by rw [hg]; exact (below_size (by repeat (first | (with_reducible first | exact HB.out | apply below_alloc | apply pw_below_drewN | apply below_drew1 | refine bS ?_ GE232.out | refine bS ?_ GE233.out) | exact HB.out))) : w.heap.size ≤ gb244))
                 have n5_ := Aside0.mk ((by rw [hg]; exact (below_size (by repeat (first | (with_reducible first | exact HB.out | apply below_alloc | apply pw_below_drewN | apply below_drew1 | refine bS ?_ GE232.out | refine bS ?_ GE233.out) | exact HB.out))) : w.heap.size ≤ gb244))
                 have n6_ := Aside0.mk ((by rw [hg]; exact Nat.ne_of_lt (blk_lt (g := gb232) (o := .cells #[.int .i64 a0_0, .int .i64 a0_1, .int .i64 a0_2] 26 (0, 0)) (by (with_reducible repeat (first | refine bN ?_ _ | refine bD ?_ | refine bA ?_ _)); exact BK232.out)) : gb232 ≠ gb244))
                 have n7_ := Aside0.mk ((by rw [hg]; exact Nat.ne_of_gt (blk_lt (g := gb232) (o := .cells #[.int .i64 a0_0, .int .i64 a0_1, .int .i64 a0_2] 26 (0, 0)) (by (with_reducible repeat (first | refine bN ?_ _ | refine bD ?_ | refine bA ?_ _)); exact BK232.out)) : gb244 ≠ gb232))
                 have n8_ := Aside0.mk ((by rw [hg]; exact Nat.ne_of_lt (blk_lt (g := gb233) (o := .cells #[.int .i64 a1_0, .int .i64 a1_1, .int .i64 a1_2, .int .i64 a1_3, .bool false] 28 (0, 0)) (by (with_reducible repeat (first | refine bN ?_ _ | refine bD ?_ | refine bA ?_ _)); exact BK233.out)) : gb233 ≠ gb244))
                 have n9_ := Aside0.mk ((by rw [hg]; exact Nat.ne_of_gt (blk_lt (g := gb233) (o := .cells #[.int .i64 a1_0, .int .i64 a1_1, .int .i64 a1_2, .int .i64 a1_3, .bool false] 28 (0, 0)) (by (with_reducible repeat (first | refine bN ?_ _ | refine bD ?_ | refine bA ?_ _)); exact BK233.out)) : gb244 ≠ gb233))
                 clear BK232
                 clear BK233
                 clear HB
                 have BK232 := n0_
                 have BK233 := n1_
                 have HB := n2_
                 have BK244 := n3_
                 have GW244 := n4_
                 have GE244 := n5_
                 have NB232_244 := n6_
                 have NB244_232 := n7_
                 have NB233_244 := n8_
                 have NB244_233 := n9_
                 clear n0_ n1_ n2_ n3_ n4_ n5_ n6_ n7_ n8_ n9_
                 clear hb hbox hg
                 refine hK.out _ _ ⟨(blk_cell BK232.out 0).trans rfl, (blk_cell BK232.out 1).trans rfl, (blk_cell BK232.out 2).trans rfl, (blk_cell BK233.out 0).trans rfl, (blk_cell BK233.out 1).trans rfl, (blk_cell BK233.out 2).trans rfl, (blk_cell BK233.out 3).trans rfl, (blk_cell BK233.out 4).trans rfl⟩ (fun hHeld => ?_)
                 clear hK K
                 refine norm_ (a' := ?_) ?_ ?_
                 rotate_left
                 ·show Act.put _ (some 5) _ = _
                  simp only [Act.put, List.setIfInBounds_toArray, List.set_cons_zero, List.set_cons_succ, i64_w, i32_w]
                  rfl
                 refine one_ (i := 6) (N := some 21) #[true, true, true, true, true, true, true, false, false, false, true, false, false] rfl rfl (one_of HT_.out (by kernel_rfl)) (by decide) (fun K hK => ?_)
                 refine goes_ Try.func10 (by kernel_rfl) rfl #[.agg #[.int .i64 a0_0, .int .i64 a0_1], .int .i64 a0_2, .agg #[.int .i64 t234, .int .i64 t235, .int .i64 t236, .int .i64 t237, .bool t238]] (by rfl) rfl rfl (by (try simp only [List.map_toArray, List.map_cons, List.map_nil]); first | done | rfl | (simp only [List.length_drop, List.length_take]; rfl)) ?_
                 with_reducible refine (place_Cells.calls a0_0 a0_1 a0_2 t234 t235 t236 t237 t238 t239 t240 t241 t242 t243 _ A4.out).mono ?_
                 rintro e w81 ⟨rfl, hb⟩
                 refine ⟨_, rfl, ?_⟩
                 have n0_ := Aside0.mk (blk_below (g := gb232) (o := .cells #[.int .i64 a0_0, .int .i64 a0_1, .int .i64 a0_2] 26 (0, 0)) (by (with_reducible repeat (first | refine bN ?_ _ | refine bD ?_ | refine bA ?_ _)); exact BK232.out) hb)
                 have n1_ := Aside0.mk (blk_below (g := gb233) (o := .cells #[.int .i64 a1_0, .int .i64 a1_1, .int .i64 a1_2, .int .i64 a1_3, .bool false] 28 (0, 0)) (by (with_reducible repeat (first | refine bN ?_ _ | refine bD ?_ | refine bA ?_ _)); exact BK233.out) hb)
                 have n2_ := Aside0.mk (blk_below (g := gb244) (o := .cells #[.int .i64 0, .int .i64 0, .int .i64 0, .int .i64 0] 33 (0, 0)) (by (with_reducible repeat (first | refine bN ?_ _ | refine bD ?_ | refine bA ?_ _)); exact BK244.out) hb)
                 have n3_ := Aside0.mk (below_step (by repeat (first | (with_reducible first | exact HB.out | apply below_alloc | apply pw_below_drewN | apply below_drew1 | refine bS ?_ GE232.out | refine bS ?_ GE233.out | refine bS ?_ GE244.out) | exact HB.out)) hb)
                 clear BK232
                 clear BK233
                 clear BK244
                 clear HB
                 have BK232 := n0_
                 have BK233 := n1_
                 have BK244 := n2_
                 have HB := n3_
                 clear n0_ n1_ n2_ n3_
                 (try clear hb)
                 (try clear hb2)
                 (try clear hk)
                 (try clear hi)
                 refine hK.out _ _ ⟨(blk_cell BK232.out 0).trans rfl, (blk_cell BK232.out 1).trans rfl, (blk_cell BK232.out 2).trans rfl, (blk_cell BK233.out 0).trans rfl, (blk_cell BK233.out 1).trans rfl, (blk_cell BK233.out 2).trans rfl, (blk_cell BK233.out 3).trans rfl, (blk_cell BK233.out 4).trans rfl⟩ (fun hHeld => ?_)
                 clear hK K
                 refine norm_ (a' := ?_) ?_ ?_
                 rotate_left
                 ·show Act.put _ (some 21) _ = _
                  simp only [Act.put, List.setIfInBounds_toArray, List.set_cons_zero, List.set_cons_succ, i64_w, i32_w]
                  rfl
                 refine pure_ (i := 7) (N := some 14) (v := ?_) (a' := ?_) #[true, true, true, true, true, true, true, true, false, false, true, false, false] rfl rfl (any_of HT_.out (by kernel_rfl)) (fun _ _ _ h => h) (Or.inl ⟨by rfl, ?_⟩) ?_ ?_
                 rotate_left
                 ·intro w'
                  go_simp
                  with_reducible rfl
                 rotate_left
                 ·simp only [Act.put, List.setIfInBounds_toArray, List.set_cons_zero, List.set_cons_succ, i64_w, i32_w]
                  rfl
                 refine pure_ (i := 8) (N := some 22) (v := ?_) (a' := ?_) #[true, true, true, true, true, true, true, true, true, false, true, false, false] rfl rfl (any_of HT_.out (by kernel_rfl)) (fun _ _ _ h => h) (Or.inl ⟨by rfl, ?_⟩) ?_ ?_
                 rotate_left
                 ·intro w'
                  go_simp
                  with_reducible rfl
                 rotate_left
                 ·simp only [Act.put, List.setIfInBounds_toArray, List.set_cons_zero, List.set_cons_succ, i64_w, i32_w]
                  rfl
                 refine pure_ (i := 9) (N := some 23) (v := ?_) (a' := ?_) #[true, true, true, true, true, true, true, true, true, true, true, false, false] rfl rfl (any_of HT_.out (by kernel_rfl)) (fun _ _ _ h => h) (Or.inl ⟨by rfl, ?_⟩) ?_ ?_
                 rotate_left
                 ·intro w'
                  go_simp
                  with_reducible rfl
                 rotate_left
                 ·simp only [Act.put, List.setIfInBounds_toArray, List.set_cons_zero, List.set_cons_succ, i64_w, i32_w]
                  rfl
                 exact norm_ (by simp only [putAll, Act.put, List.setIfInBounds_toArray, List.set_cons_zero, List.set_cons_succ]) (hCont (gb244) _ ⟨hHeld, (by (with_reducible repeat (first | refine bN ?_ _ | refine bD ?_ | refine bA ?_ _)); exact BK232.out), (by (with_reducible repeat (first | refine bN ?_ _ | refine bD ?_ | refine bA ?_ _)); exact BK233.out), (by (with_reducible repeat (first | refine bN ?_ _ | refine bD ?_ | refine bA ?_ _)); exact BK244.out), GW244.out, GE244.out, NB232_244.out, NB244_232.out, NB233_244.out, NB244_233.out, (by repeat (first | (with_reducible first | exact HB.out | apply below_alloc | apply pw_below_drewN | apply below_drew1 | refine bS ?_ GE232.out | refine bS ?_ GE233.out | refine bS ?_ GE244.out) | exact HB.out))⟩)
               ·skip
                refine box_step ?hg (N := 5) ?hd (cs := #[.int .i64 0, .int .i64 0, .int .i64 0, .int .i64 0]) (t := 33) ?hr ?_; (case hd => rfl); (case hg => rfl); (case hr => first | (go_simp; done) | (go_simp; rfl))
                intro gb244 hg w79 hbox hb
                have n0_ := Aside0.mk (blk_below (g := gb232) (o := .cells #[.int .i64 a0_0, .int .i64 a0_1, .int .i64 a0_2] 26 (0, 0)) (by (with_reducible repeat (first | refine bN ?_ _ | refine bD ?_ | refine bA ?_ _)); exact BK232.out) hb)
                have n1_ := Aside0.mk (blk_below (g := gb233) (o := .cells #[.int .i64 a1_0, .int .i64 a1_1, .int .i64 a1_2, .int .i64 a1_3, .bool false] 28 (0, 0)) (by (with_reducible repeat (first | refine bN ?_ _ | refine bD ?_ | refine bA ?_ _)); exact BK233.out) hb)
                have n2_ := Aside0.mk (below_step (by repeat (first | (with_reducible first | exact HB.out | apply below_alloc | apply pw_below_drewN | apply below_drew1 | refine bS ?_ GE232.out | refine bS ?_ GE233.out) | exact HB.out)) hb)
                have n3_ := Aside0.mk (hbox)
                have n4_ := Aside0.mk ((by rw [hg]; exact (below_size (by repeat (first | (with_reducible first | exact HB.out | apply below_alloc | apply pw_below_drewN | apply below_drew1 | refine bS ?_ GE232.out | refine bS ?_ GE233.out) | exact HB.out))) : w.heap.size ≤ gb244))
                have n5_ := Aside0.mk ((by rw [hg]; exact (below_size (by repeat (first | (with_reducible first | exact HB.out | apply below_alloc | apply pw_below_drewN | apply below_drew1 | refine bS ?_ GE232.out | refine bS ?_ GE233.out) | exact HB.out))) : w.heap.size ≤ gb244))
                have n6_ := Aside0.mk ((by rw [hg]; exact Nat.ne_of_lt (blk_lt (g := gb232) (o := .cells #[.int .i64 a0_0, .int .i64 a0_1, .int .i64 a0_2] 26 (0, 0)) (by (with_reducible repeat (first | refine bN ?_ _ | refine bD ?_ | refine bA ?_ _)); exact BK232.out)) : gb232 ≠ gb244))
                have n7_ := Aside0.mk ((by rw [hg]; exact Nat.ne_of_gt (blk_lt (g := gb232) (o := .cells #[.int .i64 a0_0, .int .i64 a0_1, .int .i64 a0_2] 26 (0, 0)) (by (with_reducible repeat (first | refine bN ?_ _ | refine bD ?_ | refine bA ?_ _)); exact BK232.out)) : gb244 ≠ gb232))
                have n8_ := Aside0.mk ((by rw [hg]; exact Nat.ne_of_lt (blk_lt (g := gb233) (o := .cells #[.int .i64 a1_0, .int .i64 a1_1, .int .i64 a1_2, .int .i64 a1_3, .bool false] 28 (0, 0)) (by (with_reducible repeat (first | refine bN ?_ _ | refine bD ?_ | refine bA ?_ _)); exact BK233.out)) : gb233 ≠ gb244))
                have n9_ := Aside0.mk ((by rw [hg]; exact Nat.ne_of_gt (blk_lt (g := gb233) (o := .cells #[.int .i64 a1_0, .int .i64 a1_1, .int .i64 a1_2, .int .i64 a1_3, .bool false] 28 (0, 0)) (by (with_reducible repeat (first | refine bN ?_ _ | refine bD ?_ | refine bA ?_ _)); exact BK233.out)) : gb244 ≠ gb233))
                clear BK232
                clear BK233
                clear HB
                have BK232 := n0_
                have BK233 := n1_
                have HB := n2_
                have BK244 := n3_
                have GW244 := n4_
                have GE244 := n5_
                have NB232_244 := n6_
                have NB244_232 := n7_
                have NB233_244 := n8_
                have NB244_233 := n9_
                clear n0_ n1_ n2_ n3_ n4_ n5_ n6_ n7_ n8_ n9_
                clear hb hbox hg
                refine hK.out _ _ ⟨(blk_cell BK232.out 0).trans rfl, (blk_cell BK232.out 1).trans rfl, (blk_cell BK232.out 2).trans rfl, (blk_cell BK233.out 0).trans rfl, (blk_cell BK233.out 1).trans rfl, (blk_cell BK233.out 2).trans rfl, (blk_cell BK233.out 3).trans rfl, (blk_cell BK233.out 4).trans rfl⟩ (fun hHeld => ?_)
                clear hK K
                refine norm_ (a' := ?_) ?_ ?_
                rotate_left
                ·show Act.put _ (some 5) _ = _
                 simp only [Act.put, List.setIfInBounds_toArray, List.set_cons_zero, List.set_cons_succ, i64_w, i32_w]
                 rfl
                refine one_ (i := 5) (N := some 20) #[true, true, true, true, true, true, false, false, false, false, true, false, false] rfl rfl (one_of HT_.out (by kernel_rfl)) (by decide) (fun K hK => ?_)
                refine goes_ Try.func11 (by kernel_rfl) rfl #[.agg #[.int .i64 a1_0, .int .i64 a1_1, .int .i64 a1_2, .int .i64 a1_3, .bool false]] (by rfl) rfl rfl (by (try simp only [List.map_toArray, List.map_cons, List.map_nil]); first | done | rfl | (simp only [List.length_drop, List.length_take]; rfl)) ?_
                with_reducible refine (frisketlaw19_box.calls a1_0 a1_1 a1_2 a1_3 false t234 t235 t236 t237 t238 _ A3.out).mono ?_
                rintro e w80 ⟨rfl, hb⟩
                refine ⟨_, rfl, ?_⟩
                have n0_ := Aside0.mk (blk_below (g := gb232) (o := .cells #[.int .i64 a0_0, .int .i64 a0_1, .int .i64 a0_2] 26 (0, 0)) (by (with_reducible repeat (first | refine bN ?_ _ | refine bD ?_ | refine bA ?_ _)); exact BK232.out) hb)
                have n1_ := Aside0.mk (blk_below (g := gb233) (o := .cells #[.int .i64 a1_0, .int .i64 a1_1, .int .i64 a1_2, .int .i64 a1_3, .bool false] 28 (0, 0)) (by (with_reducible repeat (first | refine bN ?_ _ | refine bD ?_ | refine bA ?_ _)); exact BK233.out) hb)
                have n2_ := Aside0.mk (blk_below (g := gb244) (o := .cells #[.int .i64 0, .int .i64 0, .int .i64 0, .int .i64 0] 33 (0, 0)) (by (with_reducible repeat (first | refine bN ?_ _ | refine bD ?_ | refine bA ?_ _)); exact BK244.out) hb)
                have n3_ := Aside0.mk (below_step (by repeat (first | (with_reducible first | exact HB.out | apply below_alloc | apply pw_below_drewN | apply below_drew1 | refine bS ?_ GE232.out | refine bS ?_ GE233.out | refine bS ?_ GE244.out) | exact HB.out)) hb)
                clear BK232
                clear BK233
                clear BK244
                clear HB
                have BK232 := n0_
                have BK233 := n1_
                have BK244 := n2_
                have HB := n3_
                clear n0_ n1_ n2_ n3_
                (try clear hb)
                (try clear hb2)
                (try clear hk)
                (try clear hi)
                refine hK.out _ _ ⟨(blk_cell BK232.out 0).trans rfl, (blk_cell BK232.out 1).trans rfl, (blk_cell BK232.out 2).trans rfl, (blk_cell BK233.out 0).trans rfl, (blk_cell BK233.out 1).trans rfl, (blk_cell BK233.out 2).trans rfl, (blk_cell BK233.out 3).trans rfl, (blk_cell BK233.out 4).trans rfl⟩ (fun hHeld => ?_)
                clear hK K
                refine norm_ (a' := ?_) ?_ ?_
                rotate_left
                ·show Act.put _ (some 20) _ = _
                 simp only [Act.put, List.setIfInBounds_toArray, List.set_cons_zero, List.set_cons_succ, i64_w, i32_w]
                 rfl
                refine one_ (i := 6) (N := some 21) #[true, true, true, true, true, true, true, false, false, false, true, false, false] rfl rfl (one_of HT_.out (by kernel_rfl)) (by decide) (fun K hK => ?_)
                refine goes_ Try.func10 (by kernel_rfl) rfl #[.agg #[.int .i64 a0_0, .int .i64 a0_1], .int .i64 a0_2, .agg #[.int .i64 t234, .int .i64 t235, .int .i64 t236, .int .i64 t237, .bool t238]] (by rfl) rfl rfl (by (try simp only [List.map_toArray, List.map_cons, List.map_nil]); first | done | rfl | (simp only [List.length_drop, List.length_take]; rfl)) ?_
                with_reducible refine (place_Cells.calls a0_0 a0_1 a0_2 t234 t235 t236 t237 t238 t239 t240 t241 t242 t243 _ A4.out).mono ?_
                rintro e w81 ⟨rfl, hb⟩
                refine ⟨_, rfl, ?_⟩
                have n0_ := Aside0.mk (blk_below (g := gb232) (o := .cells #[.int .i64 a0_0, .int .i64 a0_1, .int .i64 a0_2] 26 (0, 0)) (by (with_reducible repeat (first | refine bN ?_ _ | refine bD ?_ | refine bA ?_ _)); exact BK232.out) hb)
                have n1_ := Aside0.mk (blk_below (g := gb233) (o := .cells #[.int .i64 a1_0, .int .i64 a1_1, .int .i64 a1_2, .int .i64 a1_3, .bool false] 28 (0, 0)) (by (with_reducible repeat (first | refine bN ?_ _ | refine bD ?_ | refine bA ?_ _)); exact BK233.out) hb)
                have n2_ := Aside0.mk (blk_below (g := gb244) (o := .cells #[.int .i64 0, .int .i64 0, .int .i64 0, .int .i64 0] 33 (0, 0)) (by (with_reducible repeat (first | refine bN ?_ _ | refine bD ?_ | refine bA ?_ _)); exact BK244.out) hb)
                have n3_ := Aside0.mk (below_step (by repeat (first | (with_reducible first | exact HB.out | apply below_alloc | apply pw_below_drewN | apply below_drew1 | refine bS ?_ GE232.out | refine bS ?_ GE233.out | refine bS ?_ GE244.out) | exact HB.out)) hb)
                clear BK232
                clear BK233
                clear BK244
                clear HB
                have BK232 := n0_
                have BK233 := n1_
                have BK244 := n2_
                have HB := n3_
                clear n0_ n1_ n2_ n3_
                (try clear hb)
                (try clear hb2)
                (try clear hk)
                (try clear hi)
                refine hK.out _ _ ⟨(blk_cell BK232.out 0).trans rfl, (blk_cell BK232.out 1).trans rfl, (blk_cell BK232.out 2).trans rfl, (blk_cell BK233.out 0).trans rfl, (blk_cell BK233.out 1).trans rfl, (blk_cell BK233.out 2).trans rfl, (blk_cell BK233.out 3).trans rfl, (blk_cell BK233.out 4).trans rfl⟩ (fun hHeld => ?_)
                clear hK K
                refine norm_ (a' := ?_) ?_ ?_
                rotate_left
                ·show Act.put _ (some 21) _ = _
                 simp only [Act.put, List.setIfInBounds_toArray, List.set_cons_zero, List.set_cons_succ, i64_w, i32_w]
                 rfl
                refine pure_ (i := 7) (N := some 14) (v := ?_) (a' := ?_) #[true, true, true, true, true, true, true, true, false, false, true, false, false] rfl rfl (any_of HT_.out (by kernel_rfl)) (fun _ _ _ h => h) (Or.inl ⟨by rfl, ?_⟩) ?_ ?_
                rotate_left
                ·intro w'
                 go_simp
                 with_reducible rfl
                rotate_left
                ·simp only [Act.put, List.setIfInBounds_toArray, List.set_cons_zero, List.set_cons_succ, i64_w, i32_w]
                 rfl
                refine pure_ (i := 8) (N := some 22) (v := ?_) (a' := ?_) #[true, true, true, true, true, true, true, true, true, false, true, false, false] rfl rfl (any_of HT_.out (by kernel_rfl)) (fun _ _ _ h => h) (Or.inl ⟨by rfl, ?_⟩) ?_ ?_
                rotate_left
                ·intro w'
                 go_simp
                 with_reducible rfl
                rotate_left
                ·simp only [Act.put, List.setIfInBounds_toArray, List.set_cons_zero, List.set_cons_succ, i64_w, i32_w]
                 rfl
                refine pure_ (i := 9) (N := some 23) (v := ?_) (a' := ?_) #[true, true, true, true, true, true, true, true, true, true, true, false, false] rfl rfl (any_of HT_.out (by kernel_rfl)) (fun _ _ _ h => h) (Or.inl ⟨by rfl, ?_⟩) ?_ ?_
                rotate_left
                ·intro w'
                 go_simp
                 with_reducible rfl
                rotate_left
                ·simp only [Act.put, List.setIfInBounds_toArray, List.set_cons_zero, List.set_cons_succ, i64_w, i32_w]
                 rfl
                exact norm_ (by simp only [putAll, Act.put, List.setIfInBounds_toArray, List.set_cons_zero, List.set_cons_succ]) (hCont (gb244) _ ⟨hHeld, (by (with_reducible repeat (first | refine bN ?_ _ | refine bD ?_ | refine bA ?_ _)); exact BK232.out), (by (with_reducible repeat (first | refine bN ?_ _ | refine bD ?_ | refine bA ?_ _)); exact BK233.out), (by (with_reducible repeat (first | refine bN ?_ _ | refine bD ?_ | refine bA ?_ _)); exact BK244.out), GW244.out, GE244.out, NB232_244.out, NB244_232.out, NB233_244.out, NB244_233.out, (by repeat (first | (with_reducible first | exact HB.out | apply below_alloc | apply pw_below_drewN | apply below_drew1 | refine bS ?_ GE232.out | refine bS ?_ GE233.out | refine bS ?_ GE244.out) | exact HB.out))⟩)
              rintro gb244 w82 ⟨hS_, h0_, h1_, h2_, h3_, h4_, h5_, h6_, h7_, h8_, h9_⟩
              have n0_ : Aside0 (w82.heap[gb232]? = some (.cells #[.int .i64 a0_0, .int .i64 a0_1, .int .i64 a0_2] 26 (0, 0))) := ⟨h0_⟩
              have n1_ : Aside0 (w82.heap[gb233]? = some (.cells #[.int .i64 a1_0, .int .i64 a1_1, .int .i64 a1_2, .int .i64 a1_3, .bool false] 28 (0, 0))) := ⟨h1_⟩
              have n2_ : Aside0 (w82.heap[gb244]? = some (.cells #[.int .i64 0, .int .i64 0, .int .i64 0, .int .i64 0] 33 (0, 0))) := ⟨h2_⟩
              have n3_ : Aside0 (w.heap.size ≤ gb244) := ⟨h3_⟩
              have n4_ : Aside0 (w.heap.size ≤ gb244) := ⟨h4_⟩
              have n5_ : Aside0 (gb232 ≠ gb244) := ⟨h5_⟩
              have n6_ : Aside0 (gb244 ≠ gb232) := ⟨h6_⟩
              have n7_ : Aside0 (gb233 ≠ gb244) := ⟨h7_⟩
              have n8_ : Aside0 (gb244 ≠ gb233) := ⟨h8_⟩
              have n9_ : Aside0 (Below w.heap.size w w82) := ⟨h9_⟩
              clear BK232
              clear BK233
              clear HB
              clear h0_ h1_ h2_ h3_ h4_ h5_ h6_ h7_ h8_ h9_
              have BK232 := n0_
              have BK233 := n1_
              have BK244 := n2_
              have GW244 := n3_
              have GE244 := n4_
              have NB232_244 := n5_
              have NB244_232 := n6_
              have NB233_244 := n7_
              have NB244_233 := n8_
              have HB := n9_
              clear n0_ n1_ n2_ n3_ n4_ n5_ n6_ n7_ n8_ n9_
              have hHeld : w82.cell? ⟨gb232, 0, none⟩ = some (.int .i64 a0_0) ∧ w82.cell? ⟨gb232, 1, none⟩ = some (.int .i64 a0_1) ∧ w82.cell? ⟨gb232, 2, none⟩ = some (.int .i64 a0_2) ∧ w82.cell? ⟨gb233, 0, none⟩ = some (.int .i64 a1_0) ∧ w82.cell? ⟨gb233, 1, none⟩ = some (.int .i64 a1_1) ∧ w82.cell? ⟨gb233, 2, none⟩ = some (.int .i64 a1_2) ∧ w82.cell? ⟨gb233, 3, none⟩ = some (.int .i64 a1_3) ∧ w82.cell? ⟨gb233, 4, none⟩ = some (.bool false) := hS_
              refine norm_ (a' := ?_) ?_ ?_
              rotate_left
              ·simp only [putAll, Act.put, List.setIfInBounds_toArray, List.set_cons_zero, List.set_cons_succ]
               rfl
              refine one_ (i := 11) (N := none) #[true, true, true, true, true, true, true, true, true, true, true, true, false] rfl rfl (one_of HT_.out (by kernel_rfl)) (by decide) (fun K hK => ?_)
              have hs83 := cI BK244.out 0 rfl
              have hfs83 := bF BK244.out 0
              have hns83_0 := NB232_244.out
              have hns83_1 := NB233_244.out
              have hms83_0 := NB244_232.out
              have hms83_1 := NB244_233.out
              have hs84 := cI BK244.out 1 rfl
              have hfs84 := bF BK244.out 1
              have hns84_0 := NB232_244.out
              have hns84_1 := NB233_244.out
              have hms84_0 := NB244_232.out
              have hms84_1 := NB244_233.out
              have hs85 := cI BK244.out 2 rfl
              have hfs85 := bF BK244.out 2
              have hns85_0 := NB232_244.out
              have hns85_1 := NB233_244.out
              have hms85_0 := NB244_232.out
              have hms85_1 := NB244_233.out
              have hs86 := cI BK244.out 3 rfl
              have hfs86 := bF BK244.out 3
              have hns86_0 := NB232_244.out
              have hns86_1 := NB233_244.out
              have hms86_0 := NB244_232.out
              have hms86_1 := NB244_233.out
              refine skip_ (w1 := ?_) (by rfl) rfl ?_ ?_
              rotate_left
              ·go_simp
               rfl
              refine hK.out _ _ ⟨((cell_far (p := ⟨gb244, _, none⟩) NB232_244.out _).trans (((cell_far (p := ⟨gb244, _, none⟩) NB232_244.out _).trans (((cell_far (p := ⟨gb244, _, none⟩) NB232_244.out _).trans (((cell_far (p := ⟨gb244, _, none⟩) NB232_244.out _).trans (hHeld.1)))))))), ((cell_far (p := ⟨gb244, _, none⟩) NB232_244.out _).trans (((cell_far (p := ⟨gb244, _, none⟩) NB232_244.out _).trans (((cell_far (p := ⟨gb244, _, none⟩) NB232_244.out _).trans (((cell_far (p := ⟨gb244, _, none⟩) NB232_244.out _).trans (hHeld.2.1)))))))), ((cell_far (p := ⟨gb244, _, none⟩) NB232_244.out _).trans (((cell_far (p := ⟨gb244, _, none⟩) NB232_244.out _).trans (((cell_far (p := ⟨gb244, _, none⟩) NB232_244.out _).trans (((cell_far (p := ⟨gb244, _, none⟩) NB232_244.out _).trans (hHeld.2.2.1)))))))), ((cell_far (p := ⟨gb244, _, none⟩) NB233_244.out _).trans (((cell_far (p := ⟨gb244, _, none⟩) NB233_244.out _).trans (((cell_far (p := ⟨gb244, _, none⟩) NB233_244.out _).trans (((cell_far (p := ⟨gb244, _, none⟩) NB233_244.out _).trans (hHeld.2.2.2.1)))))))), ((cell_far (p := ⟨gb244, _, none⟩) NB233_244.out _).trans (((cell_far (p := ⟨gb244, _, none⟩) NB233_244.out _).trans (((cell_far (p := ⟨gb244, _, none⟩) NB233_244.out _).trans (((cell_far (p := ⟨gb244, _, none⟩) NB233_244.out _).trans (hHeld.2.2.2.2.1)))))))), ((cell_far (p := ⟨gb244, _, none⟩) NB233_244.out _).trans (((cell_far (p := ⟨gb244, _, none⟩) NB233_244.out _).trans (((cell_far (p := ⟨gb244, _, none⟩) NB233_244.out _).trans (((cell_far (p := ⟨gb244, _, none⟩) NB233_244.out _).trans (hHeld.2.2.2.2.2.1)))))))), ((cell_far (p := ⟨gb244, _, none⟩) NB233_244.out _).trans (((cell_far (p := ⟨gb244, _, none⟩) NB233_244.out _).trans (((cell_far (p := ⟨gb244, _, none⟩) NB233_244.out _).trans (((cell_far (p := ⟨gb244, _, none⟩) NB233_244.out _).trans (hHeld.2.2.2.2.2.2.1)))))))), ((cell_far (p := ⟨gb244, _, none⟩) NB233_244.out _).trans (((cell_far (p := ⟨gb244, _, none⟩) NB233_244.out _).trans (((cell_far (p := ⟨gb244, _, none⟩) NB233_244.out _).trans (((cell_far (p := ⟨gb244, _, none⟩) NB233_244.out _).trans (hHeld.2.2.2.2.2.2.2))))))))⟩ (fun hHeld => ?_)
              clear hK K
              refine pure_ (i := 12) (N := some 6) (v := ?_) (a' := ?_) #[true, true, true, true, true, true, true, true, true, true, true, true, true] rfl rfl (any_of HT_.out (by kernel_rfl)) (fun _ _ _ h => h) (Or.inl ⟨by rfl, ?_⟩) ?_ ?_
              rotate_left
              ·intro w'
               go_simp
               with_reducible rfl
              rotate_left
              ·simp only [Act.put, List.setIfInBounds_toArray, List.set_cons_zero, List.set_cons_succ, i64_w, i32_w]
               rfl
              refine done_ (done_of HT_.out (by kernel_rfl)) ?_
              have hnb87 := NB232_233.out
              have hnc87 := NB233_232.out
              have hnb88 := NB232_244.out
              have hnc88 := NB244_232.out
              have hcz89_0 := cI BK232.out 0 rfl
              have hcz89_1 := cI BK232.out 1 rfl
              have hcz89_2 := cI BK232.out 2 rfl
              have hfz89_0 := bF BK232.out 0
              have hfz89_1 := bF BK232.out 1
              have hfz89_2 := bF BK232.out 2
              try go_wp2_with (first | ((with_reducible refine gate_callee (f := 8) rfl ?_); refine goesL_ (some 32) rfl rfl Try.func8 (by kernel_rfl) rfl #[.agg #[.int .i64 a0_0, .int .i64 a0_1], .int .i64 a0_2] rfl (by (try simp only [List.map_toArray, List.map_cons, List.map_nil]); first | done | rfl | (simp only [List.length_drop, List.length_take]; rfl)) ?_; (with_reducible refine (place_Sides.calls a0_0 a0_1 a0_2 t246 t247 t248 _ A6.out).mono ?_); rintro e w90 ⟨rfl, hb⟩; refine ⟨_, rfl, ?_⟩; have n0_ := Aside0.mk (blk_below (g := gb232) (o := .cells #[.int .i64 a0_0, .int .i64 a0_1, .int .i64 a0_2] 26 (0, 0)) (by (with_reducible repeat (first | refine bN ?_ _ | refine bD ?_ | refine bA ?_ _)); refine blk_far ?_ NB232_244.out _; (with_reducible repeat (first | refine bN ?_ _ | refine bD ?_ | refine bA ?_ _)); refine blk_far ?_ NB232_244.out _; (with_reducible repeat (first | refine bN ?_ _ | refine bD ?_ | refine bA ?_ _)); refine blk_far ?_ NB232_244.out _; (with_reducible repeat (first | refine bN ?_ _ | refine bD ?_ | refine bA ?_ _)); refine blk_far ?_ NB232_244.out _; (with_reducible repeat (first | refine bN ?_ _ | refine bD ?_ | refine bA ?_ _)); exact BK232.out) hb); have n1_ := Aside0.mk (blk_below (g := gb233) (o := .cells #[.int .i64 a1_0, .int .i64 a1_1, .int .i64 a1_2, .int .i64 a1_3, .bool false] 28 (0, 0)) (by (with_reducible repeat (first | refine bN ?_ _ | refine bD ?_ | refine bA ?_ _)); refine blk_far ?_ NB233_244.out _; (with_reducible repeat (first | refine bN ?_ _ | refine bD ?_ | refine bA ?_ _)); refine blk_far ?_ NB233_244.out _; (with_reducible repeat (first | refine bN ?_ _ | refine bD ?_ | refine bA ?_ _)); refine blk_far ?_ NB233_244.out _; (with_reducible repeat (first | refine bN ?_ _ | refine bD ?_ | refine bA ?_ _)); refine blk_far ?_ NB233_244.out _; (with_reducible repeat (first | refine bN ?_ _ | refine bD ?_ | refine bA ?_ _)); exact BK233.out) hb); have n2_ := Aside0.mk (blk_below (g := gb244) (o := .cells #[.int .i64 t239, .int .i64 t240, .int .i64 t241, .int .i64 t242] 33 (0, 0)) (by (with_reducible repeat (first | refine bN ?_ _ | refine bD ?_ | refine bA ?_ _)); refine blk_put (cs := #[.int .i64 t239, .int .i64 t240, .int .i64 t241, .int .i64 0]) ?_ 3 _ rfl; (with_reducible repeat (first | refine bN ?_ _ | refine bD ?_ | refine bA ?_ _)); refine blk_put (cs := #[.int .i64 t239, .int .i64 t240, .int .i64 0, .int .i64 0]) ?_ 2 _ rfl; (with_reducible repeat (first | refine bN ?_ _ | refine bD ?_ | refine bA ?_ _)); refine blk_put (cs := #[.int .i64 t239, .int .i64 0, .int .i64 0, .int .i64 0]) ?_ 1 _ rfl; (with_reducible repeat (first | refine bN ?_ _ | refine bD ?_ | refine bA ?_ _)); refine blk_put (cs := #[.int .i64 0, .int .i64 0, .int .i64 0, .int .i64 0]) ?_ 0 _ rfl; (with_reducible repeat (first | refine bN ?_ _ | refine bD ?_ | refine bA ?_ _)); exact BK244.out) hb); have n3_ := Aside0.mk (below_step (by repeat (first | (with_reducible first | exact HB.out | apply below_alloc | apply pw_below_drewN | apply below_drew1 | refine bS ?_ GE232.out | refine bS ?_ GE233.out | refine bS ?_ GE244.out) | exact HB.out)) hb); clear BK232; clear BK233; clear BK244; clear HB; have BK232 := n0_; have BK233 := n1_; have BK244 := n2_; have HB := n3_; clear n0_ n1_ n2_ n3_; (try clear hb); (try clear hb2); (try clear hk); (try clear hi); have hcz91_0 := cI BK232.out 0 rfl; have hcz91_1 := cI BK232.out 1 rfl; have hcz91_2 := cI BK232.out 2 rfl; have hfz91_0 := bF BK232.out 0; have hfz91_1 := bF BK232.out 1; have hfz91_2 := bF BK232.out 2; have hnb92 := NB244_233.out; have hnc92 := NB233_244.out; have hcz93_0 := cI BK244.out 0 rfl; have hcz93_1 := cI BK244.out 1 rfl; have hcz93_2 := cI BK244.out 2 rfl; have hcz93_3 := cI BK244.out 3 rfl; have hfz93_0 := bF BK244.out 0; have hfz93_1 := bF BK244.out 1; have hfz93_2 := bF BK244.out 2; have hfz93_3 := bF BK244.out 3; have hcz94_0 := cI BK233.out 0 rfl; have hcz94_1 := cI BK233.out 1 rfl; have hcz94_2 := cI BK233.out 2 rfl; have hcz94_3 := cI BK233.out 3 rfl; have hcz94_4 := cI BK233.out 4 rfl; have hfz94_0 := bF BK233.out 0; have hfz94_1 := bF BK233.out 1; have hfz94_2 := bF BK233.out 2; have hfz94_3 := bF BK233.out 3; have hfz94_4 := bF BK233.out 4) | ((with_reducible refine gate_callee (f := 14) rfl ?_); refine goesL_ (some 44) rfl rfl Try.func14 (by kernel_rfl) rfl #[.agg #[.int .i64 a0_0, .int .i64 a0_1], .int .i64 a0_2, .agg #[.int .i64 t239, .int .i64 t240, .int .i64 t241, .int .i64 t242], .bool false] rfl (by (try simp only [List.map_toArray, List.map_cons, List.map_nil]); first | done | rfl | (simp only [List.length_drop, List.length_take]; rfl)) ?_; (with_reducible refine (place_Of.calls a0_0 a0_1 a0_2 t239 t240 t241 t242 false t249 t250 t251 t252 t253 t254 _ A7.out).mono ?_); rintro e w95 ⟨rfl, hb⟩; refine ⟨_, rfl, ?_⟩; have n0_ := Aside0.mk (blk_below (g := gb232) (o := .cells #[.int .i64 a0_0, .int .i64 a0_1, .int .i64 a0_2] 26 (0, 0)) (by (with_reducible repeat (first | refine bN ?_ _ | refine bD ?_ | refine bA ?_ _)); exact BK232.out) hb); have n1_ := Aside0.mk (blk_below (g := gb233) (o := .cells #[.int .i64 a1_0, .int .i64 a1_1, .int .i64 a1_2, .int .i64 a1_3, .bool false] 28 (0, 0)) (by (with_reducible repeat (first | refine bN ?_ _ | refine bD ?_ | refine bA ?_ _)); exact BK233.out) hb); have n2_ := Aside0.mk (blk_below (g := gb244) (o := .cells #[.int .i64 t239, .int .i64 t240, .int .i64 t241, .int .i64 t242] 33 (0, 0)) (by (with_reducible repeat (first | refine bN ?_ _ | refine bD ?_ | refine bA ?_ _)); exact BK244.out) hb); have n3_ := Aside0.mk (below_step (by repeat (first | (with_reducible first | exact HB.out | apply below_alloc | apply pw_below_drewN | apply below_drew1 | refine bS ?_ GE232.out | refine bS ?_ GE233.out | refine bS ?_ GE244.out) | exact HB.out)) hb); clear BK232; clear BK233; clear BK244; clear HB; have BK232 := n0_; have BK233 := n1_; have BK244 := n2_; have HB := n3_; clear n0_ n1_ n2_ n3_; (try clear hb); (try clear hb2); (try clear hk); (try clear hi)) | ((with_reducible refine gate_dst (N := 10) rfl ?_); refine box_event ?hg (N := 10) ?hd (cs := #[.int .i64 0, .int .i64 0, .int .i64 0, .int .i64 0, .bool false]) (t := 36) ?hr ?_; (case hd => rfl); (case hg => rfl); (case hr => first | (go_simp; done) | (go_simp; rfl)); intro gb255 hg w96 hbox hb; have n0_ := Aside0.mk (blk_below (g := gb232) (o := .cells #[.int .i64 a0_0, .int .i64 a0_1, .int .i64 a0_2] 26 (0, 0)) (by (with_reducible repeat (first | refine bN ?_ _ | refine bD ?_ | refine bA ?_ _)); exact BK232.out) hb); have n1_ := Aside0.mk (blk_below (g := gb233) (o := .cells #[.int .i64 a1_0, .int .i64 a1_1, .int .i64 a1_2, .int .i64 a1_3, .bool false] 28 (0, 0)) (by (with_reducible repeat (first | refine bN ?_ _ | refine bD ?_ | refine bA ?_ _)); exact BK233.out) hb); have n2_ := Aside0.mk (blk_below (g := gb244) (o := .cells #[.int .i64 t239, .int .i64 t240, .int .i64 t241, .int .i64 t242] 33 (0, 0)) (by (with_reducible repeat (first | refine bN ?_ _ | refine bD ?_ | refine bA ?_ _)); exact BK244.out) hb); have n3_ := Aside0.mk (below_step (by repeat (first | (with_reducible first | exact HB.out | apply below_alloc | apply pw_below_drewN | apply below_drew1 | refine bS ?_ GE232.out | refine bS ?_ GE233.out | refine bS ?_ GE244.out) | exact HB.out)) hb); have n4_ := Aside0.mk (hbox); have n5_ := Aside0.mk ((by rw [hg]; exact (below_size (by repeat (first | (with_reducible first | exact HB.out | apply below_alloc | apply pw_below_drewN | apply below_drew1 | refine bS ?_ GE232.out | refine bS ?_ GE233.out | refine bS ?_ GE244.out) | exact HB.out))) : w.heap.size ≤ gb255)); have n6_ := Aside0.mk ((by rw [hg]; exact (below_size (by repeat (first | (with_reducible first | exact HB.out | apply below_alloc | apply pw_below_drewN | apply below_drew1 | refine bS ?_ GE232.out | refine bS ?_ GE233.out | refine bS ?_ GE244.out) | exact HB.out))) : w.heap.size ≤ gb255)); have n7_ := Aside0.mk ((by rw [hg]; exact Nat.ne_of_lt (blk_lt (g := gb232) (o := .cells #[.int .i64 a0_0, .int .i64 a0_1, .int .i64 a0_2] 26 (0, 0)) (by (with_reducible repeat (first | refine bN ?_ _ | refine bD ?_ | refine bA ?_ _)); exact BK232.out)) : gb232 ≠ gb255)); have n8_ := Aside0.mk ((by rw [hg]; exact Nat.ne_of_gt (blk_lt (g := gb232) (o := .cells #[.int .i64 a0_0, .int .i64 a0_1, .int .i64 a0_2] 26 (0, 0)) (by (with_reducible repeat (first | refine bN ?_ _ | refine bD ?_ | refine bA ?_ _)); exact BK232.out)) : gb255 ≠ gb232)); have n9_ := Aside0.mk ((by rw [hg]; exact Nat.ne_of_lt (blk_lt (g := gb233) (o := .cells #[.int .i64 a1_0, .int .i64 a1_1, .int .i64 a1_2, .int .i64 a1_3, .bool false] 28 (0, 0)) (by (with_reducible repeat (first | refine bN ?_ _ | refine bD ?_ | refine bA ?_ _)); exact BK233.out)) : gb233 ≠ gb255)); have n10_ := Aside0.mk ((by rw [hg]; exact Nat.ne_of_gt (blk_lt (g := gb233) (o := .cells #[.int .i64 a1_0, .int .i64 a1_1, .int .i64 a1_2, .int .i64 a1_3, .bool false] 28 (0, 0)) (by (with_reducible repeat (first | refine bN ?_ _ | refine bD ?_ | refine bA ?_ _)); exact BK233.out)) : gb255 ≠ gb233)); have n11_ := Aside0.mk ((by rw [hg]; exact Nat.ne_of_lt (blk_lt (g := gb244) (o := .cells #[.int .i64 t239, .int .i64 t240, .int .i64 t241, .int .i64 t242] 33 (0, 0)) (by (with_reducible repeat (first | refine bN ?_ _ | refine bD ?_ | refine bA ?_ _)); exact BK244.out)) : gb244 ≠ gb255)); have n12_ := Aside0.mk ((by rw [hg]; exact Nat.ne_of_gt (blk_lt (g := gb244) (o := .cells #[.int .i64 t239, .int .i64 t240, .int .i64 t241, .int .i64 t242] 33 (0, 0)) (by (with_reducible repeat (first | refine bN ?_ _ | refine bD ?_ | refine bA ?_ _)); exact BK244.out)) : gb255 ≠ gb244)); clear BK232; clear BK233; clear BK244; clear HB; have BK232 := n0_; have BK233 := n1_; have BK244 := n2_; have HB := n3_; have BK255 := n4_; have GW255 := n5_; have GE255 := n6_; have NB232_255 := n7_; have NB255_232 := n8_; have NB233_255 := n9_; have NB255_233 := n10_; have NB244_255 := n11_; have NB255_244 := n12_; clear n0_ n1_ n2_ n3_ n4_ n5_ n6_ n7_ n8_ n9_ n10_ n11_ n12_; clear hb hbox hg; have hnb97 := NB255_232.out; have hnc97 := NB232_255.out; have hnb98 := NB255_233.out; have hnc98 := NB233_255.out; have hnb99 := NB255_244.out; have hnc99 := NB244_255.out; have hcz100_0 := cI BK255.out 0 rfl; have hcz100_1 := cI BK255.out 1 rfl; have hcz100_2 := cI BK255.out 2 rfl; have hcz100_3 := cI BK255.out 3 rfl; have hcz100_4 := cI BK255.out 4 rfl; have hfz100_0 := bF BK255.out 0; have hfz100_1 := bF BK255.out 1; have hfz100_2 := bF BK255.out 2; have hfz100_3 := bF BK255.out 3; have hfz100_4 := bF BK255.out 4; have hcz101_0 := cI BK233.out 0 rfl; have hcz101_1 := cI BK233.out 1 rfl; have hcz101_2 := cI BK233.out 2 rfl; have hcz101_3 := cI BK233.out 3 rfl; have hcz101_4 := cI BK233.out 4 rfl; have hfz101_0 := bF BK233.out 0; have hfz101_1 := bF BK233.out 1; have hfz101_2 := bF BK233.out 2; have hfz101_3 := bF BK233.out 3; have hfz101_4 := bF BK233.out 4) | ((with_reducible refine gate_callee (f := 11) rfl ?_); refine goesL_ (some 48) rfl rfl Try.func11 (by kernel_rfl) rfl #[.agg #[.int .i64 a1_0, .int .i64 a1_1, .int .i64 a1_2, .int .i64 a1_3, .bool false]] rfl (by (try simp only [List.map_toArray, List.map_cons, List.map_nil]); first | done | rfl | (simp only [List.length_drop, List.length_take]; rfl)) ?_; (with_reducible refine (frisketlaw19_box.calls a1_0 a1_1 a1_2 a1_3 false t256 t257 t258 t259 t260 _ A8.out).mono ?_); rintro e w102 ⟨rfl, hb⟩; refine ⟨_, rfl, ?_⟩; have n0_ := Aside0.mk (blk_below (g := gb232) (o := .cells #[.int .i64 a0_0, .int .i64 a0_1, .int .i64 a0_2] 26 (0, 0)) (by (with_reducible repeat (first | refine bN ?_ _ | refine bD ?_ | refine bA ?_ _)); refine blk_far ?_ NB232_255.out _; (with_reducible repeat (first | refine bN ?_ _ | refine bD ?_ | refine bA ?_ _)); refine blk_far ?_ NB232_255.out _; (with_reducible repeat (first | refine bN ?_ _ | refine bD ?_ | refine bA ?_ _)); refine blk_far ?_ NB232_255.out _; (with_reducible repeat (first | refine bN ?_ _ | refine bD ?_ | refine bA ?_ _)); refine blk_far ?_ NB232_255.out _; (with_reducible repeat (first | refine bN ?_ _ | refine bD ?_ | refine bA ?_ _)); refine blk_far ?_ NB232_255.out _; (with_reducible repeat (first | refine bN ?_ _ | refine bD ?_ | refine bA ?_ _)); exact BK232.out) hb); have n1_ := Aside0.mk (blk_below (g := gb233) (o := .cells #[.int .i64 a1_0, .int .i64 a1_1, .int .i64 a1_2, .int .i64 a1_3, .bool false] 28 (0, 0)) (by (with_reducible repeat (first | refine bN ?_ _ | refine bD ?_ | refine bA ?_ _)); refine blk_far ?_ NB233_255.out _; (with_reducible repeat (first | refine bN ?_ _ | refine bD ?_ | refine bA ?_ _)); refine blk_far ?_ NB233_255.out _; (with_reducible repeat (first | refine bN ?_ _ | refine bD ?_ | refine bA ?_ _)); refine blk_far ?_ NB233_255.out _; (with_reducible repeat (first | refine bN ?_ _ | refine bD ?_ | refine bA ?_ _)); refine blk_far ?_ NB233_255.out _; (with_reducible repeat (first | refine bN ?_ _ | refine bD ?_ | refine bA ?_ _)); refine blk_far ?_ NB233_255.out _; (with_reducible repeat (first | refine bN ?_ _ | refine bD ?_ | refine bA ?_ _)); exact BK233.out) hb); have n2_ := Aside0.mk (blk_below (g := gb244) (o := .cells #[.int .i64 t239, .int .i64 t240, .int .i64 t241, .int .i64 t242] 33 (0, 0)) (by (with_reducible repeat (first | refine bN ?_ _ | refine bD ?_ | refine bA ?_ _)); refine blk_far ?_ NB244_255.out _; (with_reducible repeat (first | refine bN ?_ _ | refine bD ?_ | refine bA ?_ _)); refine blk_far ?_ NB244_255.out _; (with_reducible repeat (first | refine bN ?_ _ | refine bD ?_ | refine bA ?_ _)); refine blk_far ?_ NB244_255.out _; (with_reducible repeat (first | refine bN ?_ _ | refine bD ?_ | refine bA ?_ _)); refine blk_far ?_ NB244_255.out _; (with_reducible repeat (first | refine bN ?_ _ | refine bD ?_ | refine bA ?_ _)); refine blk_far ?_ NB244_255.out _; (with_reducible repeat (first | refine bN ?_ _ | refine bD ?_ | refine bA ?_ _)); exact BK244.out) hb); have n3_ := Aside0.mk (blk_below (g := gb255) (o := .cells #[.int .i64 t249, .int .i64 t250, .int .i64 t251, .int .i64 t252, .bool t253] 36 (0, 0)) (by (with_reducible repeat (first | refine bN ?_ _ | refine bD ?_ | refine bA ?_ _)); refine blk_put (cs := #[.int .i64 t249, .int .i64 t250, .int .i64 t251, .int .i64 t252, .bool false]) ?_ 4 _ rfl; (with_reducible repeat (first | refine bN ?_ _ | refine bD ?_ | refine bA ?_ _)); refine blk_put (cs := #[.int .i64 t249, .int .i64 t250, .int .i64 t251, .int .i64 0, .bool false]) ?_ 3 _ rfl; (with_reducible repeat (first | refine bN ?_ _ | refine bD ?_ | refine bA ?_ _)); refine blk_put (cs := #[.int .i64 t249, .int .i64 t250, .int .i64 0, .int .i64 0, .bool false]) ?_ 2 _ rfl; (with_reducible repeat (first | refine bN ?_ _ | refine bD ?_ | refine bA ?_ _)); refine blk_put (cs := #[.int .i64 t249, .int .i64 0, .int .i64 0, .int .i64 0, .bool false]) ?_ 1 _ rfl; (with_reducible repeat (first | refine bN ?_ _ | refine bD ?_ | refine bA ?_ _)); refine blk_put (cs := #[.int .i64 0, .int .i64 0, .int .i64 0, .int .i64 0, .bool false]) ?_ 0 _ rfl; (with_reducible repeat (first | refine bN ?_ _ | refine bD ?_ | refine bA ?_ _)); exact BK255.out) hb); have n4_ := Aside0.mk (below_step (by repeat (first | (with_reducible first | exact HB.out | apply below_alloc | apply pw_below_drewN | apply below_drew1 | refine bS ?_ GE232.out | refine bS ?_ GE233.out | refine bS ?_ GE244.out | refine bS ?_ GE255.out) | exact HB.out)) hb); clear BK232; clear BK233; clear BK244; clear BK255; clear HB; have BK232 := n0_; have BK233 := n1_; have BK244 := n2_; have BK255 := n3_; have HB := n4_; clear n0_ n1_ n2_ n3_ n4_; (try clear hb); (try clear hb2); (try clear hk); (try clear hi)) | ((with_reducible refine gate_dst (N := 12) rfl ?_); refine box_event ?hg (N := 12) ?hd (cs := #[.int .i64 0, .int .i64 0, .int .i64 0, .int .i64 0, .bool false]) (t := 36) ?hr ?_; (case hd => rfl); (case hg => rfl); (case hr => first | (go_simp; done) | (go_simp; rfl)); intro gb261 hg w103 hbox hb; have n0_ := Aside0.mk (blk_below (g := gb232) (o := .cells #[.int .i64 a0_0, .int .i64 a0_1, .int .i64 a0_2] 26 (0, 0)) (by (with_reducible repeat (first | refine bN ?_ _ | refine bD ?_ | refine bA ?_ _)); exact BK232.out) hb); have n1_ := Aside0.mk (blk_below (g := gb233) (o := .cells #[.int .i64 a1_0, .int .i64 a1_1, .int .i64 a1_2, .int .i64 a1_3, .bool false] 28 (0, 0)) (by (with_reducible repeat (first | refine bN ?_ _ | refine bD ?_ | refine bA ?_ _)); exact BK233.out) hb); have n2_ := Aside0.mk (blk_below (g := gb244) (o := .cells #[.int .i64 t239, .int .i64 t240, .int .i64 t241, .int .i64 t242] 33 (0, 0)) (by (with_reducible repeat (first | refine bN ?_ _ | refine bD ?_ | refine bA ?_ _)); exact BK244.out) hb); have n3_ := Aside0.mk (blk_below (g := gb255) (o := .cells #[.int .i64 t249, .int .i64 t250, .int .i64 t251, .int .i64 t252, .bool t253] 36 (0, 0)) (by (with_reducible repeat (first | refine bN ?_ _ | refine bD ?_ | refine bA ?_ _)); exact BK255.out) hb); have n4_ := Aside0.mk (below_step (by repeat (first | (with_reducible first | exact HB.out | apply below_alloc | apply pw_below_drewN | apply below_drew1 | refine bS ?_ GE232.out | refine bS ?_ GE233.out | refine bS ?_ GE244.out | refine bS ?_ GE255.out) | exact HB.out)) hb); have n5_ := Aside0.mk (hbox); have n6_ := Aside0.mk ((by rw [hg]; exact (below_size (by repeat (first | (with_reducible first | exact HB.out | apply below_alloc | apply pw_below_drewN | apply below_drew1 | refine bS ?_ GE232.out | refine bS ?_ GE233.out | refine bS ?_ GE244.out | refine bS ?_ GE255.out) | exact HB.out))) : w.heap.size ≤ gb261)); have n7_ := Aside0.mk ((by rw [hg]; exact (below_size (by repeat (first | (with_reducible first | exact HB.out | apply below_alloc | apply pw_below_drewN | apply below_drew1 | refine bS ?_ GE232.out | refine bS ?_ GE233.out | refine bS ?_ GE244.out | refine bS ?_ GE255.out) | exact HB.out))) : w.heap.size ≤ gb261)); have n8_ := Aside0.mk ((by rw [hg]; exact Nat.ne_of_lt (blk_lt (g := gb232) (o := .cells #[.int .i64 a0_0, .int .i64 a0_1, .int .i64 a0_2] 26 (0, 0)) (by (with_reducible repeat (first | refine bN ?_ _ | refine bD ?_ | refine bA ?_ _)); exact BK232.out)) : gb232 ≠ gb261)); have n9_ := Aside0.mk ((by rw [hg]; exact Nat.ne_of_gt (blk_lt (g := gb232) (o := .cells #[.int .i64 a0_0, .int .i64 a0_1, .int .i64 a0_2] 26 (0, 0)) (by (with_reducible repeat (first | refine bN ?_ _ | refine bD ?_ | refine bA ?_ _)); exact BK232.out)) : gb261 ≠ gb232)); have n10_ := Aside0.mk ((by rw [hg]; exact Nat.ne_of_lt (blk_lt (g := gb233) (o := .cells #[.int .i64 a1_0, .int .i64 a1_1, .int .i64 a1_2, .int .i64 a1_3, .bool false] 28 (0, 0)) (by (with_reducible repeat (first | refine bN ?_ _ | refine bD ?_ | refine bA ?_ _)); exact BK233.out)) : gb233 ≠ gb261)); have n11_ := Aside0.mk ((by rw [hg]; exact Nat.ne_of_gt (blk_lt (g := gb233) (o := .cells #[.int .i64 a1_0, .int .i64 a1_1, .int .i64 a1_2, .int .i64 a1_3, .bool false] 28 (0, 0)) (by (with_reducible repeat (first | refine bN ?_ _ | refine bD ?_ | refine bA ?_ _)); exact BK233.out)) : gb261 ≠ gb233)); have n12_ := Aside0.mk ((by rw [hg]; exact Nat.ne_of_lt (blk_lt (g := gb244) (o := .cells #[.int .i64 t239, .int .i64 t240, .int .i64 t241, .int .i64 t242] 33 (0, 0)) (by (with_reducible repeat (first | refine bN ?_ _ | refine bD ?_ | refine bA ?_ _)); exact BK244.out)) : gb244 ≠ gb261)); have n13_ := Aside0.mk ((by rw [hg]; exact Nat.ne_of_gt (blk_lt (g := gb244) (o := .cells #[.int .i64 t239, .int .i64 t240, .int .i64 t241, .int .i64 t242] 33 (0, 0)) (by (with_reducible repeat (first | refine bN ?_ _ | refine bD ?_ | refine bA ?_ _)); exact BK244.out)) : gb261 ≠ gb244)); have n14_ := Aside0.mk ((by rw [hg]; exact Nat.ne_of_lt (blk_lt (g := gb255) (o := .cells #[.int .i64 t249, .int .i64 t250, .int .i64 t251, .int .i64 t252, .bool t253] 36 (0, 0)) (by (with_reducible repeat (first | refine bN ?_ _ | refine bD ?_ | refine bA ?_ _)); exact BK255.out)) : gb255 ≠ gb261)); have n15_ := Aside0.mk ((by rw [hg]; exact Nat.ne_of_gt (blk_lt (g := gb255) (o := .cells #[.int .i64 t249, .int .i64 t250, .int .i64 t251, .int .i64 t252, .bool t253] 36 (0, 0)) (by (with_reducible repeat (first | refine bN ?_ _ | refine bD ?_ | refine bA ?_ _)); exact BK255.out)) : gb261 ≠ gb255)); clear BK232; clear BK233; clear BK244; clear BK255; clear HB; have BK232 := n0_; have BK233 := n1_; have BK244 := n2_; have BK255 := n3_; have HB := n4_; have BK261 := n5_; have GW261 := n6_; have GE261 := n7_; have NB232_261 := n8_; have NB261_232 := n9_; have NB233_261 := n10_; have NB261_233 := n11_; have NB244_261 := n12_; have NB261_244 := n13_; have NB255_261 := n14_; have NB261_255 := n15_; clear n0_ n1_ n2_ n3_ n4_ n5_ n6_ n7_ n8_ n9_ n10_ n11_ n12_ n13_ n14_ n15_; clear hb hbox hg; have hnb104 := NB261_232.out; have hnc104 := NB232_261.out; have hnb105 := NB261_233.out; have hnc105 := NB233_261.out; have hnb106 := NB261_244.out; have hnc106 := NB244_261.out; have hnb107 := NB261_255.out; have hnc107 := NB255_261.out; have hcz108_0 := cI BK261.out 0 rfl; have hcz108_1 := cI BK261.out 1 rfl; have hcz108_2 := cI BK261.out 2 rfl; have hcz108_3 := cI BK261.out 3 rfl; have hcz108_4 := cI BK261.out 4 rfl; have hfz108_0 := bF BK261.out 0; have hfz108_1 := bF BK261.out 1; have hfz108_2 := bF BK261.out 2; have hfz108_3 := bF BK261.out 3; have hfz108_4 := bF BK261.out 4; have hcz109_0 := cI BK233.out 0 rfl; have hcz109_1 := cI BK233.out 1 rfl; have hcz109_2 := cI BK233.out 2 rfl; have hcz109_3 := cI BK233.out 3 rfl; have hcz109_4 := cI BK233.out 4 rfl; have hfz109_0 := bF BK233.out 0; have hfz109_1 := bF BK233.out 1; have hfz109_2 := bF BK233.out 2; have hfz109_3 := bF BK233.out 3; have hfz109_4 := bF BK233.out 4; have hcz110_0 := cI BK244.out 0 rfl; have hcz110_1 := cI BK244.out 1 rfl; have hcz110_2 := cI BK244.out 2 rfl; have hcz110_3 := cI BK244.out 3 rfl; have hfz110_0 := bF BK244.out 0; have hfz110_1 := bF BK244.out 1; have hfz110_2 := bF BK244.out 2; have hfz110_3 := bF BK244.out 3) | ((with_reducible refine gate_callee (f := 13) rfl ?_); refine goesL_ (some 93) rfl rfl Try.func13 (by kernel_rfl) rfl #[] rfl (by (try simp only [List.map_toArray, List.map_cons, List.map_nil]); first | done | rfl | (simp only [List.length_drop, List.length_take]; rfl)) ?_; (with_reducible refine (frisketlaw19_alive.calls  true _ A69.out).mono ?_); rintro e w111 ⟨rfl, hb⟩; refine ⟨_, rfl, ?_⟩; have n0_ := Aside0.mk (blk_below (g := gb232) (o := .cells #[.int .i64 a0_0, .int .i64 a0_1, .int .i64 a0_2] 26 (0, 0)) (by (with_reducible repeat (first | refine bN ?_ _ | refine bD ?_ | refine bA ?_ _)); refine blk_far ?_ NB232_261.out _; (with_reducible repeat (first | refine bN ?_ _ | refine bD ?_ | refine bA ?_ _)); refine blk_far ?_ NB232_261.out _; (with_reducible repeat (first | refine bN ?_ _ | refine bD ?_ | refine bA ?_ _)); refine blk_far ?_ NB232_261.out _; (with_reducible repeat (first | refine bN ?_ _ | refine bD ?_ | refine bA ?_ _)); refine blk_far ?_ NB232_261.out _; (with_reducible repeat (first | refine bN ?_ _ | refine bD ?_ | refine bA ?_ _)); refine blk_far ?_ NB232_261.out _; (with_reducible repeat (first | refine bN ?_ _ | refine bD ?_ | refine bA ?_ _)); refine blk_far ?_ NB232_261.out _; (with_reducible repeat (first | refine bN ?_ _ | refine bD ?_ | refine bA ?_ _)); exact BK232.out) hb); have n1_ := Aside0.mk (blk_below (g := gb233) (o := .cells #[.int .i64 a1_0, .int .i64 a1_1, .int .i64 a1_2, .int .i64 a1_3, .bool false] 28 (0, 0)) (by (with_reducible repeat (first | refine bN ?_ _ | refine bD ?_ | refine bA ?_ _)); refine blk_far ?_ NB233_261.out _; (with_reducible repeat (first | refine bN ?_ _ | refine bD ?_ | refine bA ?_ _)); refine blk_far ?_ NB233_261.out _; (with_reducible repeat (first | refine bN ?_ _ | refine bD ?_ | refine bA ?_ _)); refine blk_far ?_ NB233_261.out _; (with_reducible repeat (first | refine bN ?_ _ | refine bD ?_ | refine bA ?_ _)); refine blk_far ?_ NB233_261.out _; (with_reducible repeat (first | refine bN ?_ _ | refine bD ?_ | refine bA ?_ _)); refine blk_far ?_ NB233_261.out _; (with_reducible repeat (first | refine bN ?_ _ | refine bD ?_ | refine bA ?_ _)); refine blk_far ?_ NB233_261.out _; (with_reducible repeat (first | refine bN ?_ _ | refine bD ?_ | refine bA ?_ _)); exact BK233.out) hb); have n2_ := Aside0.mk (blk_below (g := gb244) (o := .cells #[.int .i64 t239, .int .i64 t240, .int .i64 t241, .int .i64 t242] 33 (0, 0)) (by (with_reducible repeat (first | refine bN ?_ _ | refine bD ?_ | refine bA ?_ _)); refine blk_far ?_ NB244_261.out _; (with_reducible repeat (first | refine bN ?_ _ | refine bD ?_ | refine bA ?_ _)); refine blk_far ?_ NB244_261.out _; (with_reducible repeat (first | refine bN ?_ _ | refine bD ?_ | refine bA ?_ _)); refine blk_far ?_ NB244_261.out _; (with_reducible repeat (first | refine bN ?_ _ | refine bD ?_ | refine bA ?_ _)); refine blk_far ?_ NB244_261.out _; (with_reducible repeat (first | refine bN ?_ _ | refine bD ?_ | refine bA ?_ _)); refine blk_far ?_ NB244_261.out _; (with_reducible repeat (first | refine bN ?_ _ | refine bD ?_ | refine bA ?_ _)); refine blk_far ?_ NB244_261.out _; (with_reducible repeat (first | refine bN ?_ _ | refine bD ?_ | refine bA ?_ _)); exact BK244.out) hb); have n3_ := Aside0.mk (blk_below (g := gb255) (o := .cells #[.int .i64 t249, .int .i64 t250, .int .i64 t251, .int .i64 t252, .bool t253] 36 (0, 0)) (by (with_reducible repeat (first | refine bN ?_ _ | refine bD ?_ | refine bA ?_ _)); refine blk_far ?_ NB255_261.out _; (with_reducible repeat (first | refine bN ?_ _ | refine bD ?_ | refine bA ?_ _)); refine blk_far ?_ NB255_261.out _; (with_reducible repeat (first | refine bN ?_ _ | refine bD ?_ | refine bA ?_ _)); refine blk_far ?_ NB255_261.out _; (with_reducible repeat (first | refine bN ?_ _ | refine bD ?_ | refine bA ?_ _)); refine blk_far ?_ NB255_261.out _; (with_reducible repeat (first | refine bN ?_ _ | refine bD ?_ | refine bA ?_ _)); refine blk_far ?_ NB255_261.out _; (with_reducible repeat (first | refine bN ?_ _ | refine bD ?_ | refine bA ?_ _)); refine blk_far ?_ NB255_261.out _; (with_reducible repeat (first | refine bN ?_ _ | refine bD ?_ | refine bA ?_ _)); exact BK255.out) hb); have n4_ := Aside0.mk (blk_below (g := gb261) (o := .cells #[.int .i64 t256, .int .i64 t257, .int .i64 t258, .int .i64 t259, .bool false] 36 (0, 0)) (by (with_reducible repeat (first | refine bN ?_ _ | refine bD ?_ | refine bA ?_ _)); refine blk_put (cs := #[.int .i64 t256, .int .i64 t257, .int .i64 t258, .int .i64 t259, .bool t260]) ?_ 4 _ rfl; (with_reducible repeat (first | refine bN ?_ _ | refine bD ?_ | refine bA ?_ _)); refine blk_put (cs := #[.int .i64 t256, .int .i64 t257, .int .i64 t258, .int .i64 t259, .bool false]) ?_ 4 _ rfl; (with_reducible repeat (first | refine bN ?_ _ | refine bD ?_ | refine bA ?_ _)); refine blk_put (cs := #[.int .i64 t256, .int .i64 t257, .int .i64 t258, .int .i64 0, .bool false]) ?_ 3 _ rfl; (with_reducible repeat (first | refine bN ?_ _ | refine bD ?_ | refine bA ?_ _)); refine blk_put (cs := #[.int .i64 t256, .int .i64 t257, .int .i64 0, .int .i64 0, .bool false]) ?_ 2 _ rfl; (with_reducible repeat (first | refine bN ?_ _ | refine bD ?_ | refine bA ?_ _)); refine blk_put (cs := #[.int .i64 t256, .int .i64 0, .int .i64 0, .int .i64 0, .bool false]) ?_ 1 _ rfl; (with_reducible repeat (first | refine bN ?_ _ | refine bD ?_ | refine bA ?_ _)); refine blk_put (cs := #[.int .i64 0, .int .i64 0, .int .i64 0, .int .i64 0, .bool false]) ?_ 0 _ rfl; (with_reducible repeat (first | refine bN ?_ _ | refine bD ?_ | refine bA ?_ _)); exact BK261.out) hb); have n5_ := Aside0.mk (below_step (by repeat (first | (with_reducible first | exact HB.out | apply below_alloc | apply pw_below_drewN | apply below_drew1 | refine bS ?_ GE232.out | refine bS ?_ GE233.out | refine bS ?_ GE244.out | refine bS ?_ GE255.out | refine bS ?_ GE261.out) | exact HB.out)) hb); clear BK232; clear BK233; clear BK244; clear BK255; clear BK261; clear HB; have BK232 := n0_; have BK233 := n1_; have BK244 := n2_; have BK255 := n3_; have BK261 := n4_; have HB := n5_; clear n0_ n1_ n2_ n3_ n4_ n5_; (try clear hb); (try clear hb2); (try clear hk); (try clear hi); have hcz112_0 := cI BK255.out 0 rfl; have hcz112_1 := cI BK255.out 1 rfl; have hcz112_2 := cI BK255.out 2 rfl; have hcz112_3 := cI BK255.out 3 rfl; have hcz112_4 := cI BK255.out 4 rfl; have hfz112_0 := bF BK255.out 0; have hfz112_1 := bF BK255.out 1; have hfz112_2 := bF BK255.out 2; have hfz112_3 := bF BK255.out 3; have hfz112_4 := bF BK255.out 4; have hcz113_0 := cI BK261.out 0 rfl; have hcz113_1 := cI BK261.out 1 rfl; have hcz113_2 := cI BK261.out 2 rfl; have hcz113_3 := cI BK261.out 3 rfl; have hcz113_4 := cI BK261.out 4 rfl; have hfz113_0 := bF BK261.out 0; have hfz113_1 := bF BK261.out 1; have hfz113_2 := bF BK261.out 2; have hfz113_3 := bF BK261.out 3; have hfz113_4 := bF BK261.out 4; have hcz114_0 := cI BK244.out 0 rfl; have hcz114_1 := cI BK244.out 1 rfl; have hcz114_2 := cI BK244.out 2 rfl; have hcz114_3 := cI BK244.out 3 rfl; have hfz114_0 := bF BK244.out 0; have hfz114_1 := bF BK244.out 1; have hfz114_2 := bF BK244.out 2; have hfz114_3 := bF BK244.out 3; have hcz115_0 := cI BK233.out 0 rfl; have hcz115_1 := cI BK233.out 1 rfl; have hcz115_2 := cI BK233.out 2 rfl; have hcz115_3 := cI BK233.out 3 rfl; have hcz115_4 := cI BK233.out 4 rfl; have hfz115_0 := bF BK233.out 0; have hfz115_1 := bF BK233.out 1; have hfz115_2 := bF BK233.out 2; have hfz115_3 := bF BK233.out 3; have hfz115_4 := bF BK233.out 4; have hcz116_0 := cI BK232.out 0 rfl; have hcz116_1 := cI BK232.out 1 rfl; have hcz116_2 := cI BK232.out 2 rfl; have hfz116_0 := bF BK232.out 0; have hfz116_1 := bF BK232.out 1; have hfz116_2 := bF BK232.out 2))
              go_ret
              exact ⟨by first | rfl | (simp [errW_none, errW_some] <;> rfl) | (simp [*, errW_none, errW_some] <;> rfl), by repeat (first | (with_reducible first | exact HB.out | apply below_alloc | apply pw_below_drewN | apply below_drew1 | refine bS ?_ GE232.out | refine bS ?_ GE233.out | refine bS ?_ GE244.out | refine bS ?_ GE255.out | refine bS ?_ GE261.out) | exact HB.out)⟩
             ·rw [if_neg c75] at H
              have c75b0 : ((wrap64 (t241 * t242)) == (wrap64 (a1_1 * a1_3))) = false := beq_eq_false_iff_ne.mpr c75
              have c75b1 : ((wrap64 (t241 * t242)) != (wrap64 (a1_1 * a1_3))) = true := bne_iff_ne.mpr c75
              exact af_absurd HRT.out H (by repeat (first | exact AF.none | exact AF.false | refine AF.ite ?_ ?_ | refine AF.bind (fun _ => ?_)))
            ·rw [if_neg c74] at H
             have c74b0 : decide ((wrap64 (t240 + t242)) ≤ t247) = false := decide_eq_false c74
             clear c74
             exact af_absurd HRT.out H (by repeat (first | exact AF.none | exact AF.false | refine AF.ite ?_ ?_ | refine AF.bind (fun _ => ?_)))
           ·rw [if_neg c73] at H
            have c73b0 : (t249 == t256 && (t250 == t257 && (t251 == t258 && (t252 == t259 && (!t253))))) = false := by simpa using c73
            (try (have c73b1 : decide (t249 = t256 && (t250 == t257 && (t251 == t258 && (t252 == t259 && (!t253))))) = false := by simpa using c73))
            (try (have c73b2 : (t249 == t256 && (t250 == t257 && (t251 == t258 && (t252 == t259 && (!t253))))) = false := by simpa using c73))
            (try (have c73b3 : ¬ (t249 = t256 && (t250 == t257 && (t251 == t258 && (t252 == t259 && (!t253))))) := by simpa using c73))
            clear c73
            exact af_absurd HRT.out H (by repeat (first | exact AF.none | exact AF.false | refine AF.ite ?_ ?_ | refine AF.bind (fun _ => ?_)))
          ·rw [if_neg c72] at H
           have c72b0 : (t254 == 0) = false := beq_eq_false_iff_ne.mpr c72
           have c72b1 : (t254 != 0) = true := bne_iff_ne.mpr c72
           exact af_absurd HRT.out H (by repeat (first | exact AF.none | exact AF.false | refine AF.ite ?_ ?_ | refine AF.bind (fun _ => ?_)))
         ·rw [if_neg c71] at H
          have c71b0 : (t248 == 0) = false := beq_eq_false_iff_ne.mpr c71
          have c71b1 : (t248 != 0) = true := bne_iff_ne.mpr c71
          exact af_absurd HRT.out H (by repeat (first | exact AF.none | exact AF.false | refine AF.ite ?_ ?_ | refine AF.bind (fun _ => ?_)))
        ·replace c70 := Bool.eq_false_iff.mpr c70
         subst c70
         have H1 : (some false) = some r := by rw [if_neg (show ¬ (false = true) by decide)] at H; exact H
         clear H
         have H := H1
         clear H1
         exact af_absurd HRT.out H (by repeat (first | exact AF.none | exact AF.false | refine AF.ite ?_ ?_ | refine AF.bind (fun _ => ?_)))
       ·rw [if_neg c68] at H
        have c68b0 : decide ((wrap64 (t239 + t241)) ≤ t246) = false := decide_eq_false c68
        clear c68
        exact af_absurd HRT.out H (by repeat (first | exact AF.none | exact AF.false | refine AF.ite ?_ ?_ | refine AF.bind (fun _ => ?_)))
      ·rw [if_neg c67] at H
       have c67b0 : decide (1 ≤ t242) = false := decide_eq_false c67
       clear c67
       exact af_absurd HRT.out H (by repeat (first | exact AF.none | exact AF.false | refine AF.ite ?_ ?_ | refine AF.bind (fun _ => ?_)))
     ·rw [if_neg c66] at H
      have c66b0 : decide (1 ≤ t241) = false := decide_eq_false c66
      clear c66
      exact af_absurd HRT.out H (by repeat (first | exact AF.none | exact AF.false | refine AF.ite ?_ ?_ | refine AF.bind (fun _ => ?_)))
    ·rw [if_neg c65] at H
     have c65b0 : decide (0 ≤ t240) = false := decide_eq_false c65
     clear c65
     exact af_absurd HRT.out H (by repeat (first | exact AF.none | exact AF.false | refine AF.ite ?_ ?_ | refine AF.bind (fun _ => ?_)))
   ·rw [if_neg c64] at H
    have c64b0 : decide (0 ≤ t239) = false := decide_eq_false c64
    clear c64
    exact af_absurd HRT.out H (by repeat (first | exact AF.none | exact AF.false | refine AF.ite ?_ ?_ | refine AF.bind (fun _ => ?_)))
 ·rw [if_neg c5] at H
  have c5b0 : (t243 == 0) = false := beq_eq_false_iff_ne.mpr c5
  have c5b1 : (t243 != 0) = true := bne_iff_ne.mpr c5
  replace H := Option.bind_eq_some_iff.mp H
  obtain ⟨t245, A1170, H⟩ := H
  replace H : (some t245) = some r := H
  have A117 := Aside0.mk A1170
  clear A1170
  obtain rfl := Option.some.inj H
  go_enter Try.func5, Try.ntmps5
  try go_wp2_with (first | ((with_reducible refine gate_dst (N := 2) rfl ?_); refine box_event ?hg (N := 2) ?hd (cs := #[.int .i64 a0_0, .int .i64 a0_1, .int .i64 a0_2]) (t := 26) ?hr ?_; (case hd => rfl); (case hg => rfl); (case hr => first | (go_simp; done) | (go_simp; rfl)); intro gb232 hg w118 hbox hb; have n0_ := Aside0.mk (below_step (by repeat (first | (with_reducible first | exact HB.out | apply below_alloc | apply pw_below_drewN | apply below_drew1) | exact HB.out)) hb); have n1_ := Aside0.mk (hbox); have n2_ := Aside0.mk ((by rw [hg]; exact (below_size (by repeat (first | (with_reducible first | exact HB.out | apply below_alloc | apply pw_below_drewN | apply below_drew1) | exact HB.out))) : w.heap.size ≤ gb232)); have n3_ := Aside0.mk ((by rw [hg]; exact (below_size (by repeat (first | (with_reducible first | exact HB.out | apply below_alloc | apply pw_below_drewN | apply below_drew1) | exact HB.out))) : w.heap.size ≤ gb232)); clear HB; have HB := n0_; have BK232 := n1_; have GW232 := n2_; have GE232 := n3_; clear n0_ n1_ n2_ n3_; clear hb hbox hg) | ((with_reducible refine gate_dst (N := 3) rfl ?_); refine box_event ?hg (N := 3) ?hd (cs := #[.int .i64 a1_0, .int .i64 a1_1, .int .i64 a1_2, .int .i64 a1_3, .bool a1_4]) (t := 28) ?hr ?_; (case hd => rfl); (case hg => rfl); (case hr => first | (go_simp; done) | (go_simp; rfl)); intro gb233 hg w119 hbox hb; have n0_ := Aside0.mk (blk_below (g := gb232) (o := .cells #[.int .i64 a0_0, .int .i64 a0_1, .int .i64 a0_2] 26 (0, 0)) (by (with_reducible repeat (first | refine bN ?_ _ | refine bD ?_ | refine bA ?_ _)); exact BK232.out) hb); have n1_ := Aside0.mk (below_step (by repeat (first | (with_reducible first | exact HB.out | apply below_alloc | apply pw_below_drewN | apply below_drew1 | refine bS ?_ GE232.out) | exact HB.out)) hb); have n2_ := Aside0.mk (hbox); have n3_ := Aside0.mk ((by rw [hg]; exact (below_size (by repeat (first | (with_reducible first | exact HB.out | apply below_alloc | apply pw_below_drewN | apply below_drew1 | refine bS ?_ GE232.out) | exact HB.out))) : w.heap.size ≤ gb233)); have n4_ := Aside0.mk ((by rw [hg]; exact (below_size (by repeat (first | (with_reducible first | exact HB.out | apply below_alloc | apply pw_below_drewN | apply below_drew1 | refine bS ?_ GE232.out) | exact HB.out))) : w.heap.size ≤ gb233)); have n5_ := Aside0.mk ((by rw [hg]; exact Nat.ne_of_lt (blk_lt (g := gb232) (o := .cells #[.int .i64 a0_0, .int .i64 a0_1, .int .i64 a0_2] 26 (0, 0)) (by (with_reducible repeat (first | refine bN ?_ _ | refine bD ?_ | refine bA ?_ _)); exact BK232.out)) : gb232 ≠ gb233)); have n6_ := Aside0.mk ((by rw [hg]; exact Nat.ne_of_gt (blk_lt (g := gb232) (o := .cells #[.int .i64 a0_0, .int .i64 a0_1, .int .i64 a0_2] 26 (0, 0)) (by (with_reducible repeat (first | refine bN ?_ _ | refine bD ?_ | refine bA ?_ _)); exact BK232.out)) : gb233 ≠ gb232)); clear BK232; clear HB; have BK232 := n0_; have HB := n1_; have BK233 := n2_; have GW233 := n3_; have GE233 := n4_; have NB232_233 := n5_; have NB233_232 := n6_; clear n0_ n1_ n2_ n3_ n4_ n5_ n6_; clear hb hbox hg))
  have n0_ := Aside0.mk (blk_drew BK232.out)
  have n1_ := Aside0.mk (blk_drew BK233.out)
  have n2_ := Aside0.mk (below_drew1 HB.out)
  clear BK232
  clear BK233
  clear HB
  have BK232 := n0_
  have BK233 := n1_
  have HB := n2_
  clear n0_ n1_ n2_
  refine start_ (n := 13) (S := fun w' => w'.cell? ⟨gb232, 0, none⟩ = some (.int .i64 a0_0) ∧ w'.cell? ⟨gb232, 1, none⟩ = some (.int .i64 a0_1) ∧ w'.cell? ⟨gb232, 2, none⟩ = some (.int .i64 a0_2) ∧ w'.cell? ⟨gb233, 0, none⟩ = some (.int .i64 a1_0) ∧ w'.cell? ⟨gb233, 1, none⟩ = some (.int .i64 a1_1) ∧ w'.cell? ⟨gb233, 2, none⟩ = some (.int .i64 a1_2) ∧ w'.cell? ⟨gb233, 3, none⟩ = some (.int .i64 a1_3) ∧ w'.cell? ⟨gb233, 4, none⟩ = some (.bool a1_4)) (ds := []) #[false, false, false, false, false, false, false, false, false, false, false, false, false] (by kernel_rfl) rfl rfl ⟨(blk_cell BK232.out 0).trans rfl, (blk_cell BK232.out 1).trans rfl, (blk_cell BK232.out 2).trans rfl, (blk_cell BK233.out 0).trans rfl, (blk_cell BK233.out 1).trans rfl, (blk_cell BK233.out 2).trans rfl, (blk_cell BK233.out 3).trans rfl, (blk_cell BK233.out 4).trans rfl⟩ (fun hHeld => ?_); refine with_tabW frisketlaw19_PlaceRound.tab1 frisketlaw19_PlaceRound.bits1 (fun HT_ HW_ => ?_)
  generalize w119.drew = w120 at BK232 BK233 HB hHeld ⊢
  refine pure_ (i := 0) (N := some 15) (v := ?_) (a' := ?_) #[true, false, false, false, false, false, false, false, false, false, false, false, false] rfl rfl (any_of HT_.out (by kernel_rfl)) (fun _ _ _ h => h) (Or.inl ⟨by rfl, ?_⟩) ?_ ?_
  rotate_left
  ·intro w'
   go_simp
   with_reducible rfl
  rotate_left
  ·simp only [Act.put, List.setIfInBounds_toArray, List.set_cons_zero, List.set_cons_succ, i64_w, i32_w]
   rfl
  refine pure_ (i := 2) (N := some 17) (v := ?_) (a' := ?_) #[true, false, true, false, false, false, false, false, false, false, false, false, false] rfl rfl (any_of HT_.out (by kernel_rfl)) (fun _ _ _ h => h) (Or.inl ⟨by rfl, ?_⟩) ?_ ?_
  rotate_left
  ·intro w'
   go_simp
   with_reducible rfl
  rotate_left
  ·simp only [Act.put, List.setIfInBounds_toArray, List.set_cons_zero, List.set_cons_succ, i64_w, i32_w]
   rfl
  refine take_ (i := 1) (N := some 16) (v := ?_) (a' := ?_) #[true, true, true, false, false, false, false, false, false, false, false, false, false] rfl rfl (take_ofW HT_.out HW_.out (by kernel_rfl)) (fun _ _ _ h => h) (Or.inl ⟨by rfl, ?_⟩) hHeld ?_ ?_
  rotate_left
  ·rintro w' ⟨s0, s1, s2, s3, s4, s5, s6, s7⟩
   go_simp
   with_reducible rfl
  rotate_left
  ·simp only [Act.put, List.setIfInBounds_toArray, List.set_cons_zero, List.set_cons_succ, i64_w, i32_w]
   rfl
  refine take_ (i := 3) (N := some 18) (v := ?_) (a' := ?_) #[true, true, true, true, false, false, false, false, false, false, false, false, false] rfl rfl (take_ofW HT_.out HW_.out (by kernel_rfl)) (fun _ _ _ h => h) (Or.inl ⟨by rfl, ?_⟩) hHeld ?_ ?_
  rotate_left
  ·rintro w' ⟨s0, s1, s2, s3, s4, s5, s6, s7⟩
   go_simp
   with_reducible rfl
  rotate_left
  ·simp only [Act.put, List.setIfInBounds_toArray, List.set_cons_zero, List.set_cons_succ, i64_w, i32_w]
   rfl
  refine take_ (i := 4) (N := some 19) (v := ?_) (a' := ?_) #[true, true, true, true, true, false, false, false, false, false, false, false, false] rfl rfl (take_ofW HT_.out HW_.out (by kernel_rfl)) (fun _ _ _ h => h) (Or.inl ⟨by rfl, ?_⟩) hHeld ?_ ?_
  rotate_left
  ·rintro w' ⟨s0, s1, s2, s3, s4, s5, s6, s7⟩
   go_simp
   with_reducible rfl
  rotate_left
  ·simp only [Act.put, List.setIfInBounds_toArray, List.set_cons_zero, List.set_cons_succ, i64_w, i32_w]
   rfl
  refine join_ (σ := Nat) 2 #[true, true, true, true, true, true, true, true, true, true, true, false, false] (fun s_ => [(20, .agg #[.int .i64 t234, .int .i64 t235, .int .i64 t236, .int .i64 t237, .bool t238]), (21, .tuple #[.agg #[.int .i64 t239, .int .i64 t240, .int .i64 t241, .int .i64 t242], .int .i64 t243]), (5, .pointer (some ⟨s_, 0, none⟩)), (14, .tuple #[.agg #[.int .i64 t239, .int .i64 t240, .int .i64 t241, .int .i64 t242], .int .i64 t243]), (22, .agg #[.int .i64 t239, .int .i64 t240, .int .i64 t241, .int .i64 t242]), (23, .int .i64 t243)]) (fun s_ w' => (w'.cell? ⟨gb232, 0, none⟩ = some (.int .i64 a0_0) ∧ w'.cell? ⟨gb232, 1, none⟩ = some (.int .i64 a0_1) ∧ w'.cell? ⟨gb232, 2, none⟩ = some (.int .i64 a0_2) ∧ w'.cell? ⟨gb233, 0, none⟩ = some (.int .i64 a1_0) ∧ w'.cell? ⟨gb233, 1, none⟩ = some (.int .i64 a1_1) ∧ w'.cell? ⟨gb233, 2, none⟩ = some (.int .i64 a1_2) ∧ w'.cell? ⟨gb233, 3, none⟩ = some (.int .i64 a1_3) ∧ w'.cell? ⟨gb233, 4, none⟩ = some (.bool a1_4)) ∧ (w'.heap[gb232]? = some (.cells #[.int .i64 a0_0, .int .i64 a0_1, .int .i64 a0_2] 26 (0, 0))) ∧ (w'.heap[gb233]? = some (.cells #[.int .i64 a1_0, .int .i64 a1_1, .int .i64 a1_2, .int .i64 a1_3, .bool a1_4] 28 (0, 0))) ∧ (w'.heap[s_]? = some (.cells #[.int .i64 0, .int .i64 0, .int .i64 0, .int .i64 0] 33 (0, 0))) ∧ (w.heap.size ≤ s_) ∧ (w.heap.size ≤ s_) ∧ (gb232 ≠ s_) ∧ (s_ ≠ gb232) ∧ (gb233 ≠ s_) ∧ (s_ ≠ gb233) ∧ (Below w.heap.size w w')) ?_ ?_
  rotate_left
  ·intro hCont
   refine two_ (i := 5) (j := 10) (Ni := some 20) (Nj := some 5) #[true, true, true, true, true, true, false, false, false, false, false, false, false] #[true, true, true, true, true, false, false, false, false, false, true, false, false] rfl rfl rfl rfl (two_of HT_.out (by kernel_rfl)) (by decide) (by decide) (fun K hK => ?_) (fun K hK => ?_)
   ·skip
    refine goes_ Try.func11 (by kernel_rfl) rfl #[.agg #[.int .i64 a1_0, .int .i64 a1_1, .int .i64 a1_2, .int .i64 a1_3, .bool a1_4]] (by rfl) rfl rfl (by (try simp only [List.map_toArray, List.map_cons, List.map_nil]); first | done | rfl | (simp only [List.length_drop, List.length_take]; rfl)) ?_
    with_reducible refine (frisketlaw19_box.calls a1_0 a1_1 a1_2 a1_3 a1_4 t234 t235 t236 t237 t238 _ A3.out).mono ?_
    rintro e w121 ⟨rfl, hb⟩
    refine ⟨_, rfl, ?_⟩
    have n0_ := Aside0.mk (blk_below (g := gb232) (o := .cells #[.int .i64 a0_0, .int .i64 a0_1, .int .i64 a0_2] 26 (0, 0)) (by (with_reducible repeat (first | refine bN ?_ _ | refine bD ?_ | refine bA ?_ _)); exact BK232.out) hb)
    have n1_ := Aside0.mk (blk_below (g := gb233) (o := .cells #[.int .i64 a1_0, .int .i64 a1_1, .int .i64 a1_2, .int .i64 a1_3, .bool a1_4] 28 (0, 0)) (by (with_reducible repeat (first | refine bN ?_ _ | refine bD ?_ | refine bA ?_ _)); exact BK233.out) hb)
    have n2_ := Aside0.mk (below_step (by repeat (first | (with_reducible first | exact HB.out | apply below_alloc | apply pw_below_drewN | apply below_drew1 | refine bS ?_ GE232.out | refine bS ?_ GE233.out) | exact HB.out)) hb)
    clear BK232
    clear BK233
    clear HB
    have BK232 := n0_
    have BK233 := n1_
    have HB := n2_
    clear n0_ n1_ n2_
    (try clear hb)
    (try clear hb2)
    (try clear hk)
    (try clear hi)
    refine hK.out _ _ ⟨(blk_cell BK232.out 0).trans rfl, (blk_cell BK232.out 1).trans rfl, (blk_cell BK232.out 2).trans rfl, (blk_cell BK233.out 0).trans rfl, (blk_cell BK233.out 1).trans rfl, (blk_cell BK233.out 2).trans rfl, (blk_cell BK233.out 3).trans rfl, (blk_cell BK233.out 4).trans rfl⟩ (fun hHeld => ?_)
    clear hK K
    refine norm_ (a' := ?_) ?_ ?_
    rotate_left
    ·show Act.put _ (some 20) _ = _
     simp only [Act.put, List.setIfInBounds_toArray, List.set_cons_zero, List.set_cons_succ, i64_w, i32_w]
     rfl
    refine two_ (i := 6) (j := 10) (Ni := some 21) (Nj := some 5) #[true, true, true, true, true, true, true, false, false, false, false, false, false] #[true, true, true, true, true, true, false, false, false, false, true, false, false] rfl rfl rfl rfl (two_of HT_.out (by kernel_rfl)) (by decide) (by decide) (fun K hK => ?_) (fun K hK => ?_)
    ·skip
     refine goes_ Try.func10 (by kernel_rfl) rfl #[.agg #[.int .i64 a0_0, .int .i64 a0_1], .int .i64 a0_2, .agg #[.int .i64 t234, .int .i64 t235, .int .i64 t236, .int .i64 t237, .bool t238]] (by rfl) rfl rfl (by (try simp only [List.map_toArray, List.map_cons, List.map_nil]); first | done | rfl | (simp only [List.length_drop, List.length_take]; rfl)) ?_
     with_reducible refine (place_Cells.calls a0_0 a0_1 a0_2 t234 t235 t236 t237 t238 t239 t240 t241 t242 t243 _ A4.out).mono ?_
     rintro e w122 ⟨rfl, hb⟩
     refine ⟨_, rfl, ?_⟩
     have n0_ := Aside0.mk (blk_below (g := gb232) (o := .cells #[.int .i64 a0_0, .int .i64 a0_1, .int .i64 a0_2] 26 (0, 0)) (by (with_reducible repeat (first | refine bN ?_ _ | refine bD ?_ | refine bA ?_ _)); exact BK232.out) hb)
     have n1_ := Aside0.mk (blk_below (g := gb233) (o := .cells #[.int .i64 a1_0, .int .i64 a1_1, .int .i64 a1_2, .int .i64 a1_3, .bool a1_4] 28 (0, 0)) (by (with_reducible repeat (first | refine bN ?_ _ | refine bD ?_ | refine bA ?_ _)); exact BK233.out) hb)
     have n2_ := Aside0.mk (below_step (by repeat (first | (with_reducible first | exact HB.out | apply below_alloc | apply pw_below_drewN | apply below_drew1 | refine bS ?_ GE232.out | refine bS ?_ GE233.out) | exact HB.out)) hb)
     clear BK232
     clear BK233
     clear HB
     have BK232 := n0_
     have BK233 := n1_
     have HB := n2_
     clear n0_ n1_ n2_
     (try clear hb)
     (try clear hb2)
     (try clear hk)
     (try clear hi)
     refine hK.out _ _ ⟨(blk_cell BK232.out 0).trans rfl, (blk_cell BK232.out 1).trans rfl, (blk_cell BK232.out 2).trans rfl, (blk_cell BK233.out 0).trans rfl, (blk_cell BK233.out 1).trans rfl, (blk_cell BK233.out 2).trans rfl, (blk_cell BK233.out 3).trans rfl, (blk_cell BK233.out 4).trans rfl⟩ (fun hHeld => ?_)
     clear hK K
     refine norm_ (a' := ?_) ?_ ?_
     rotate_left
     ·show Act.put _ (some 21) _ = _
      simp only [Act.put, List.setIfInBounds_toArray, List.set_cons_zero, List.set_cons_succ, i64_w, i32_w]
      rfl
     refine pure_ (i := 7) (N := some 14) (v := ?_) (a' := ?_) #[true, true, true, true, true, true, true, true, false, false, false, false, false] rfl rfl (any_of HT_.out (by kernel_rfl)) (fun _ _ _ h => h) (Or.inl ⟨by rfl, ?_⟩) ?_ ?_
     rotate_left
     ·intro w'
      go_simp
      with_reducible rfl
     rotate_left
     ·simp only [Act.put, List.setIfInBounds_toArray, List.set_cons_zero, List.set_cons_succ, i64_w, i32_w]
      rfl
     refine pure_ (i := 8) (N := some 22) (v := ?_) (a' := ?_) #[true, true, true, true, true, true, true, true, true, false, false, false, false] rfl rfl (any_of HT_.out (by kernel_rfl)) (fun _ _ _ h => h) (Or.inl ⟨by rfl, ?_⟩) ?_ ?_
     rotate_left
     ·intro w'
      go_simp
      with_reducible rfl
     rotate_left
     ·simp only [Act.put, List.setIfInBounds_toArray, List.set_cons_zero, List.set_cons_succ, i64_w, i32_w]
      rfl
     refine pure_ (i := 9) (N := some 23) (v := ?_) (a' := ?_) #[true, true, true, true, true, true, true, true, true, true, false, false, false] rfl rfl (any_of HT_.out (by kernel_rfl)) (fun _ _ _ h => h) (Or.inl ⟨by rfl, ?_⟩) ?_ ?_
     rotate_left
     ·intro w'
      go_simp
      with_reducible rfl
     rotate_left
     ·simp only [Act.put, List.setIfInBounds_toArray, List.set_cons_zero, List.set_cons_succ, i64_w, i32_w]
      rfl
     refine one_ (i := 10) (N := some 5) #[true, true, true, true, true, true, true, true, true, true, true, false, false] rfl rfl (one_of HT_.out (by kernel_rfl)) (by decide) (fun K hK => ?_)
     refine box_step ?hg (N := 5) ?hd (cs := #[.int .i64 0, .int .i64 0, .int .i64 0, .int .i64 0]) (t := 33) ?hr ?_; (case hd => rfl); (case hg => rfl); (case hr => first | (go_simp; done) | (go_simp; rfl))
     intro gb244 hg w123 hbox hb
     have n0_ := Aside0.mk (blk_below (g := gb232) (o := .cells #[.int .i64 a0_0, .int .i64 a0_1, .int .i64 a0_2] 26 (0, 0)) (by (with_reducible repeat (first | refine bN ?_ _ | refine bD ?_ | refine bA ?_ _)); exact BK232.out) hb)
     have n1_ := Aside0.mk (blk_below (g := gb233) (o := .cells #[.int .i64 a1_0, .int .i64 a1_1, .int .i64 a1_2, .int .i64 a1_3, .bool a1_4] 28 (0, 0)) (by (with_reducible repeat (first | refine bN ?_ _ | refine bD ?_ | refine bA ?_ _)); exact BK233.out) hb)
     have n2_ := Aside0.mk (below_step (by repeat (first | (with_reducible first | exact HB.out | apply below_alloc | apply pw_below_drewN | apply below_drew1 | refine bS ?_ GE232.out | refine bS ?_ GE233.out) | exact HB.out)) hb)
     have n3_ := Aside0.mk (hbox)
     have n4_ := Aside0.mk ((by rw [hg]; exact (below_size (by repeat (first | (with_reducible first | exact HB.out | apply below_alloc | apply pw_below_drewN | apply below_drew1 | refine bS ?_ GE232.out | refine bS ?_ GE233.out) | exact HB.out))) : w.heap.size ≤ gb244))
     have n5_ := Aside0.mk ((by rw [hg]; exact (below_size (by repeat (first | (with_reducible first | exact HB.out | apply below_alloc | apply pw_below_drewN | apply below_drew1 | refine bS ?_ GE232.out | refine bS ?_ GE233.out) | exact HB.out))) : w.heap.size ≤ gb244))
     have n6_ := Aside0.mk ((by rw [hg]; exact Nat.ne_of_lt (blk_lt (g := gb232) (o := .cells #[.int .i64 a0_0, .int .i64 a0_1, .int .i64 a0_2] 26 (0, 0)) (by (with_reducible repeat (first | refine bN ?_ _ | refine bD ?_ | refine bA ?_ _)); exact BK232.out)) : gb232 ≠ gb244))
     have n7_ := Aside0.mk ((by rw [hg]; exact Nat.ne_of_gt (blk_lt (g := gb232) (o := .cells #[.int .i64 a0_0, .int .i64 a0_1, .int .i64 a0_2] 26 (0, 0)) (by (with_reducible repeat (first | refine bN ?_ _ | refine bD ?_ | refine bA ?_ _)); exact BK232.out)) : gb244 ≠ gb232))
     have n8_ := Aside0.mk ((by rw [hg]; exact Nat.ne_of_lt (blk_lt (g := gb233) (o := .cells #[.int .i64 a1_0, .int .i64 a1_1, .int .i64 a1_2, .int .i64 a1_3, .bool a1_4] 28 (0, 0)) (by (with_reducible repeat (first | refine bN ?_ _ | refine bD ?_ | refine bA ?_ _)); exact BK233.out)) : gb233 ≠ gb244))
     have n9_ := Aside0.mk ((by rw [hg]; exact Nat.ne_of_gt (blk_lt (g := gb233) (o := .cells #[.int .i64 a1_0, .int .i64 a1_1, .int .i64 a1_2, .int .i64 a1_3, .bool a1_4] 28 (0, 0)) (by (with_reducible repeat (first | refine bN ?_ _ | refine bD ?_ | refine bA ?_ _)); exact BK233.out)) : gb244 ≠ gb233))
     clear BK232
     clear BK233
     clear HB
     have BK232 := n0_
     have BK233 := n1_
     have HB := n2_
     have BK244 := n3_
     have GW244 := n4_
     have GE244 := n5_
     have NB232_244 := n6_
     have NB244_232 := n7_
     have NB233_244 := n8_
     have NB244_233 := n9_
     clear n0_ n1_ n2_ n3_ n4_ n5_ n6_ n7_ n8_ n9_
     clear hb hbox hg
     refine hK.out _ _ ⟨(blk_cell BK232.out 0).trans rfl, (blk_cell BK232.out 1).trans rfl, (blk_cell BK232.out 2).trans rfl, (blk_cell BK233.out 0).trans rfl, (blk_cell BK233.out 1).trans rfl, (blk_cell BK233.out 2).trans rfl, (blk_cell BK233.out 3).trans rfl, (blk_cell BK233.out 4).trans rfl⟩ (fun hHeld => ?_)
     clear hK K
     refine norm_ (a' := ?_) ?_ ?_
     rotate_left
     ·show Act.put _ (some 5) _ = _
      simp only [Act.put, List.setIfInBounds_toArray, List.set_cons_zero, List.set_cons_succ, i64_w, i32_w]
      rfl
     exact norm_ (by simp only [putAll, Act.put, List.setIfInBounds_toArray, List.set_cons_zero, List.set_cons_succ]) (hCont (gb244) _ ⟨hHeld, (by (with_reducible repeat (first | refine bN ?_ _ | refine bD ?_ | refine bA ?_ _)); exact BK232.out), (by (with_reducible repeat (first | refine bN ?_ _ | refine bD ?_ | refine bA ?_ _)); exact BK233.out), (by (with_reducible repeat (first | refine bN ?_ _ | refine bD ?_ | refine bA ?_ _)); exact BK244.out), GW244.out, GE244.out, NB232_244.out, NB244_232.out, NB233_244.out, NB244_233.out, (by repeat (first | (with_reducible first | exact HB.out | apply below_alloc | apply pw_below_drewN | apply below_drew1 | refine bS ?_ GE232.out | refine bS ?_ GE233.out | refine bS ?_ GE244.out) | exact HB.out))⟩)
    ·skip
     refine box_step ?hg (N := 5) ?hd (cs := #[.int .i64 0, .int .i64 0, .int .i64 0, .int .i64 0]) (t := 33) ?hr ?_; (case hd => rfl); (case hg => rfl); (case hr => first | (go_simp; done) | (go_simp; rfl))
     intro gb244 hg w122 hbox hb
     have n0_ := Aside0.mk (blk_below (g := gb232) (o := .cells #[.int .i64 a0_0, .int .i64 a0_1, .int .i64 a0_2] 26 (0, 0)) (by (with_reducible repeat (first | refine bN ?_ _ | refine bD ?_ | refine bA ?_ _)); exact BK232.out) hb)
     have n1_ := Aside0.mk (blk_below (g := gb233) (o := .cells #[.int .i64 a1_0, .int .i64 a1_1, .int .i64 a1_2, .int .i64 a1_3, .bool a1_4] 28 (0, 0)) (by (with_reducible repeat (first | refine bN ?_ _ | refine bD ?_ | refine bA ?_ _)); exact BK233.out) hb)
     have n2_ := Aside0.mk (below_step (by repeat (first | (with_reducible first | exact HB.out | apply below_alloc | apply pw_below_drewN | apply below_drew1 | refine bS ?_ GE232.out | refine bS ?_ GE233.out) | exact HB.out)) hb)
     have n3_ := Aside0.mk (hbox)
     have n4_ := Aside0.mk ((by rw [hg]; exact (below_size (by repeat (first | (with_reducible first | exact HB.out | apply below_alloc | apply pw_below_drewN | apply below_drew1 | refine bS ?_ GE232.out | refine bS ?_ GE233.out) | exact HB.out))) : w.heap.size ≤ gb244))
     have n5_ := Aside0.mk ((by rw [hg]; exact (below_size (by repeat (first | (with_reducible first | exact HB.out | apply below_alloc | apply pw_below_drewN | apply below_drew1 | refine bS ?_ GE232.out | refine bS ?_ GE233.out) | exact HB.out))) : w.heap.size ≤ gb244))
     have n6_ := Aside0.mk ((by rw [hg]; exact Nat.ne_of_lt (blk_lt (g := gb232) (o := .cells #[.int .i64 a0_0, .int .i64 a0_1, .int .i64 a0_2] 26 (0, 0)) (by (with_reducible repeat (first | refine bN ?_ _ | refine bD ?_ | refine bA ?_ _)); exact BK232.out)) : gb232 ≠ gb244))
     have n7_ := Aside0.mk ((by rw [hg]; exact Nat.ne_of_gt (blk_lt (g := gb232) (o := .cells #[.int .i64 a0_0, .int .i64 a0_1, .int .i64 a0_2] 26 (0, 0)) (by (with_reducible repeat (first | refine bN ?_ _ | refine bD ?_ | refine bA ?_ _)); exact BK232.out)) : gb244 ≠ gb232))
     have n8_ := Aside0.mk ((by rw [hg]; exact Nat.ne_of_lt (blk_lt (g := gb233) (o := .cells #[.int .i64 a1_0, .int .i64 a1_1, .int .i64 a1_2, .int .i64 a1_3, .bool a1_4] 28 (0, 0)) (by (with_reducible repeat (first | refine bN ?_ _ | refine bD ?_ | refine bA ?_ _)); exact BK233.out)) : gb233 ≠ gb244))
     have n9_ := Aside0.mk ((by rw [hg]; exact Nat.ne_of_gt (blk_lt (g := gb233) (o := .cells #[.int .i64 a1_0, .int .i64 a1_1, .int .i64 a1_2, .int .i64 a1_3, .bool a1_4] 28 (0, 0)) (by (with_reducible repeat (first | refine bN ?_ _ | refine bD ?_ | refine bA ?_ _)); exact BK233.out)) : gb244 ≠ gb233))
     clear BK232
     clear BK233
     clear HB
     have BK232 := n0_
     have BK233 := n1_
     have HB := n2_
     have BK244 := n3_
     have GW244 := n4_
     have GE244 := n5_
     have NB232_244 := n6_
     have NB244_232 := n7_
     have NB233_244 := n8_
     have NB244_233 := n9_
     clear n0_ n1_ n2_ n3_ n4_ n5_ n6_ n7_ n8_ n9_
     clear hb hbox hg
     refine hK.out _ _ ⟨(blk_cell BK232.out 0).trans rfl, (blk_cell BK232.out 1).trans rfl, (blk_cell BK232.out 2).trans rfl, (blk_cell BK233.out 0).trans rfl, (blk_cell BK233.out 1).trans rfl, (blk_cell BK233.out 2).trans rfl, (blk_cell BK233.out 3).trans rfl, (blk_cell BK233.out 4).trans rfl⟩ (fun hHeld => ?_)
     clear hK K
     refine norm_ (a' := ?_) ?_ ?_
     rotate_left
     ·show Act.put _ (some 5) _ = _
      simp only [Act.put, List.setIfInBounds_toArray, List.set_cons_zero, List.set_cons_succ, i64_w, i32_w]
      rfl
     refine one_ (i := 6) (N := some 21) #[true, true, true, true, true, true, true, false, false, false, true, false, false] rfl rfl (one_of HT_.out (by kernel_rfl)) (by decide) (fun K hK => ?_)
     refine goes_ Try.func10 (by kernel_rfl) rfl #[.agg #[.int .i64 a0_0, .int .i64 a0_1], .int .i64 a0_2, .agg #[.int .i64 t234, .int .i64 t235, .int .i64 t236, .int .i64 t237, .bool t238]] (by rfl) rfl rfl (by (try simp only [List.map_toArray, List.map_cons, List.map_nil]); first | done | rfl | (simp only [List.length_drop, List.length_take]; rfl)) ?_
     with_reducible refine (place_Cells.calls a0_0 a0_1 a0_2 t234 t235 t236 t237 t238 t239 t240 t241 t242 t243 _ A4.out).mono ?_
     rintro e w123 ⟨rfl, hb⟩
     refine ⟨_, rfl, ?_⟩
     have n0_ := Aside0.mk (blk_below (g := gb232) (o := .cells #[.int .i64 a0_0, .int .i64 a0_1, .int .i64 a0_2] 26 (0, 0)) (by (with_reducible repeat (first | refine bN ?_ _ | refine bD ?_ | refine bA ?_ _)); exact BK232.out) hb)
     have n1_ := Aside0.mk (blk_below (g := gb233) (o := .cells #[.int .i64 a1_0, .int .i64 a1_1, .int .i64 a1_2, .int .i64 a1_3, .bool a1_4] 28 (0, 0)) (by (with_reducible repeat (first | refine bN ?_ _ | refine bD ?_ | refine bA ?_ _)); exact BK233.out) hb)
     have n2_ := Aside0.mk (blk_below (g := gb244) (o := .cells #[.int .i64 0, .int .i64 0, .int .i64 0, .int .i64 0] 33 (0, 0)) (by (with_reducible repeat (first | refine bN ?_ _ | refine bD ?_ | refine bA ?_ _)); exact BK244.out) hb)
     have n3_ := Aside0.mk (below_step (by repeat (first | (with_reducible first | exact HB.out | apply below_alloc | apply pw_below_drewN | apply below_drew1 | refine bS ?_ GE232.out | refine bS ?_ GE233.out | refine bS ?_ GE244.out) | exact HB.out)) hb)
     clear BK232
     clear BK233
     clear BK244
     clear HB
     have BK232 := n0_
     have BK233 := n1_
     have BK244 := n2_
     have HB := n3_
     clear n0_ n1_ n2_ n3_
     (try clear hb)
     (try clear hb2)
     (try clear hk)
     (try clear hi)
     refine hK.out _ _ ⟨(blk_cell BK232.out 0).trans rfl, (blk_cell BK232.out 1).trans rfl, (blk_cell BK232.out 2).trans rfl, (blk_cell BK233.out 0).trans rfl, (blk_cell BK233.out 1).trans rfl, (blk_cell BK233.out 2).trans rfl, (blk_cell BK233.out 3).trans rfl, (blk_cell BK233.out 4).trans rfl⟩ (fun hHeld => ?_)
     clear hK K
     refine norm_ (a' := ?_) ?_ ?_
     rotate_left
     ·show Act.put _ (some 21) _ = _
      simp only [Act.put, List.setIfInBounds_toArray, List.set_cons_zero, List.set_cons_succ, i64_w, i32_w]
      rfl
     refine pure_ (i := 7) (N := some 14) (v := ?_) (a' := ?_) #[true, true, true, true, true, true, true, true, false, false, true, false, false] rfl rfl (any_of HT_.out (by kernel_rfl)) (fun _ _ _ h => h) (Or.inl ⟨by rfl, ?_⟩) ?_ ?_
     rotate_left
     ·intro w'
      go_simp
      with_reducible rfl
     rotate_left
     ·simp only [Act.put, List.setIfInBounds_toArray, List.set_cons_zero, List.set_cons_succ, i64_w, i32_w]
      rfl
     refine pure_ (i := 8) (N := some 22) (v := ?_) (a' := ?_) #[true, true, true, true, true, true, true, true, true, false, true, false, false] rfl rfl (any_of HT_.out (by kernel_rfl)) (fun _ _ _ h => h) (Or.inl ⟨by rfl, ?_⟩) ?_ ?_
     rotate_left
     ·intro w'
      go_simp
      with_reducible rfl
     rotate_left
     ·simp only [Act.put, List.setIfInBounds_toArray, List.set_cons_zero, List.set_cons_succ, i64_w, i32_w]
      rfl
     refine pure_ (i := 9) (N := some 23) (v := ?_) (a' := ?_) #[true, true, true, true, true, true, true, true, true, true, true, false, false] rfl rfl (any_of HT_.out (by kernel_rfl)) (fun _ _ _ h => h) (Or.inl ⟨by rfl, ?_⟩) ?_ ?_
     rotate_left
     ·intro w'
      go_simp
      with_reducible rfl
     rotate_left
     ·simp only [Act.put, List.setIfInBounds_toArray, List.set_cons_zero, List.set_cons_succ, i64_w, i32_w]
      rfl
     exact norm_ (by simp only [putAll, Act.put, List.setIfInBounds_toArray, List.set_cons_zero, List.set_cons_succ]) (hCont (gb244) _ ⟨hHeld, (by (with_reducible repeat (first | refine bN ?_ _ | refine bD ?_ | refine bA ?_ _)); exact BK232.out), (by (with_reducible repeat (first | refine bN ?_ _ | refine bD ?_ | refine bA ?_ _)); exact BK233.out), (by (with_reducible repeat (first | refine bN ?_ _ | refine bD ?_ | refine bA ?_ _)); exact BK244.out), GW244.out, GE244.out, NB232_244.out, NB244_232.out, NB233_244.out, NB244_233.out, (by repeat (first | (with_reducible first | exact HB.out | apply below_alloc | apply pw_below_drewN | apply below_drew1 | refine bS ?_ GE232.out | refine bS ?_ GE233.out | refine bS ?_ GE244.out) | exact HB.out))⟩)
   ·skip
    refine box_step ?hg (N := 5) ?hd (cs := #[.int .i64 0, .int .i64 0, .int .i64 0, .int .i64 0]) (t := 33) ?hr ?_; (case hd => rfl); (case hg => rfl); (case hr => first | (go_simp; done) | (go_simp; rfl))
    intro gb244 hg w121 hbox hb
    have n0_ := Aside0.mk (blk_below (g := gb232) (o := .cells #[.int .i64 a0_0, .int .i64 a0_1, .int .i64 a0_2] 26 (0, 0)) (by (with_reducible repeat (first | refine bN ?_ _ | refine bD ?_ | refine bA ?_ _)); exact BK232.out) hb)
    have n1_ := Aside0.mk (blk_below (g := gb233) (o := .cells #[.int .i64 a1_0, .int .i64 a1_1, .int .i64 a1_2, .int .i64 a1_3, .bool a1_4] 28 (0, 0)) (by (with_reducible repeat (first | refine bN ?_ _ | refine bD ?_ | refine bA ?_ _)); exact BK233.out) hb)
    have n2_ := Aside0.mk (below_step (by repeat (first | (with_reducible first | exact HB.out | apply below_alloc | apply pw_below_drewN | apply below_drew1 | refine bS ?_ GE232.out | refine bS ?_ GE233.out) | exact HB.out)) hb)
    have n3_ := Aside0.mk (hbox)
    have n4_ := Aside0.mk ((by rw [hg]; exact (below_size (by repeat (first | (with_reducible first | exact HB.out | apply below_alloc | apply pw_below_drewN | apply below_drew1 | refine bS ?_ GE232.out | refine bS ?_ GE233.out) | exact HB.out))) : w.heap.size ≤ gb244))
    have n5_ := Aside0.mk ((by rw [hg]; exact (below_size (by repeat (first | (with_reducible first | exact HB.out | apply below_alloc | apply pw_below_drewN | apply below_drew1 | refine bS ?_ GE232.out | refine bS ?_ GE233.out) | exact HB.out))) : w.heap.size ≤ gb244))
    have n6_ := Aside0.mk ((by rw [hg]; exact Nat.ne_of_lt (blk_lt (g := gb232) (o := .cells #[.int .i64 a0_0, .int .i64 a0_1, .int .i64 a0_2] 26 (0, 0)) (by (with_reducible repeat (first | refine bN ?_ _ | refine bD ?_ | refine bA ?_ _)); exact BK232.out)) : gb232 ≠ gb244))
    have n7_ := Aside0.mk ((by rw [hg]; exact Nat.ne_of_gt (blk_lt (g := gb232) (o := .cells #[.int .i64 a0_0, .int .i64 a0_1, .int .i64 a0_2] 26 (0, 0)) (by (with_reducible repeat (first | refine bN ?_ _ | refine bD ?_ | refine bA ?_ _)); exact BK232.out)) : gb244 ≠ gb232))
    have n8_ := Aside0.mk ((by rw [hg]; exact Nat.ne_of_lt (blk_lt (g := gb233) (o := .cells #[.int .i64 a1_0, .int .i64 a1_1, .int .i64 a1_2, .int .i64 a1_3, .bool a1_4] 28 (0, 0)) (by (with_reducible repeat (first | refine bN ?_ _ | refine bD ?_ | refine bA ?_ _)); exact BK233.out)) : gb233 ≠ gb244))
    have n9_ := Aside0.mk ((by rw [hg]; exact Nat.ne_of_gt (blk_lt (g := gb233) (o := .cells #[.int .i64 a1_0, .int .i64 a1_1, .int .i64 a1_2, .int .i64 a1_3, .bool a1_4] 28 (0, 0)) (by (with_reducible repeat (first | refine bN ?_ _ | refine bD ?_ | refine bA ?_ _)); exact BK233.out)) : gb244 ≠ gb233))
    clear BK232
    clear BK233
    clear HB
    have BK232 := n0_
    have BK233 := n1_
    have HB := n2_
    have BK244 := n3_
    have GW244 := n4_
    have GE244 := n5_
    have NB232_244 := n6_
    have NB244_232 := n7_
    have NB233_244 := n8_
    have NB244_233 := n9_
    clear n0_ n1_ n2_ n3_ n4_ n5_ n6_ n7_ n8_ n9_
    clear hb hbox hg
    refine hK.out _ _ ⟨(blk_cell BK232.out 0).trans rfl, (blk_cell BK232.out 1).trans rfl, (blk_cell BK232.out 2).trans rfl, (blk_cell BK233.out 0).trans rfl, (blk_cell BK233.out 1).trans rfl, (blk_cell BK233.out 2).trans rfl, (blk_cell BK233.out 3).trans rfl, (blk_cell BK233.out 4).trans rfl⟩ (fun hHeld => ?_)
    clear hK K
    refine norm_ (a' := ?_) ?_ ?_
    rotate_left
    ·show Act.put _ (some 5) _ = _
     simp only [Act.put, List.setIfInBounds_toArray, List.set_cons_zero, List.set_cons_succ, i64_w, i32_w]
     rfl
    refine one_ (i := 5) (N := some 20) #[true, true, true, true, true, true, false, false, false, false, true, false, false] rfl rfl (one_of HT_.out (by kernel_rfl)) (by decide) (fun K hK => ?_)
    refine goes_ Try.func11 (by kernel_rfl) rfl #[.agg #[.int .i64 a1_0, .int .i64 a1_1, .int .i64 a1_2, .int .i64 a1_3, .bool a1_4]] (by rfl) rfl rfl (by (try simp only [List.map_toArray, List.map_cons, List.map_nil]); first | done | rfl | (simp only [List.length_drop, List.length_take]; rfl)) ?_
    with_reducible refine (frisketlaw19_box.calls a1_0 a1_1 a1_2 a1_3 a1_4 t234 t235 t236 t237 t238 _ A3.out).mono ?_
    rintro e w122 ⟨rfl, hb⟩
    refine ⟨_, rfl, ?_⟩
    have n0_ := Aside0.mk (blk_below (g := gb232) (o := .cells #[.int .i64 a0_0, .int .i64 a0_1, .int .i64 a0_2] 26 (0, 0)) (by (with_reducible repeat (first | refine bN ?_ _ | refine bD ?_ | refine bA ?_ _)); exact BK232.out) hb)
    have n1_ := Aside0.mk (blk_below (g := gb233) (o := .cells #[.int .i64 a1_0, .int .i64 a1_1, .int .i64 a1_2, .int .i64 a1_3, .bool a1_4] 28 (0, 0)) (by (with_reducible repeat (first | refine bN ?_ _ | refine bD ?_ | refine bA ?_ _)); exact BK233.out) hb)
    have n2_ := Aside0.mk (blk_below (g := gb244) (o := .cells #[.int .i64 0, .int .i64 0, .int .i64 0, .int .i64 0] 33 (0, 0)) (by (with_reducible repeat (first | refine bN ?_ _ | refine bD ?_ | refine bA ?_ _)); exact BK244.out) hb)
    have n3_ := Aside0.mk (below_step (by repeat (first | (with_reducible first | exact HB.out | apply below_alloc | apply pw_below_drewN | apply below_drew1 | refine bS ?_ GE232.out | refine bS ?_ GE233.out | refine bS ?_ GE244.out) | exact HB.out)) hb)
    clear BK232
    clear BK233
    clear BK244
    clear HB
    have BK232 := n0_
    have BK233 := n1_
    have BK244 := n2_
    have HB := n3_
    clear n0_ n1_ n2_ n3_
    (try clear hb)
    (try clear hb2)
    (try clear hk)
    (try clear hi)
    refine hK.out _ _ ⟨(blk_cell BK232.out 0).trans rfl, (blk_cell BK232.out 1).trans rfl, (blk_cell BK232.out 2).trans rfl, (blk_cell BK233.out 0).trans rfl, (blk_cell BK233.out 1).trans rfl, (blk_cell BK233.out 2).trans rfl, (blk_cell BK233.out 3).trans rfl, (blk_cell BK233.out 4).trans rfl⟩ (fun hHeld => ?_)
    clear hK K
    refine norm_ (a' := ?_) ?_ ?_
    rotate_left
    ·show Act.put _ (some 20) _ = _
     simp only [Act.put, List.setIfInBounds_toArray, List.set_cons_zero, List.set_cons_succ, i64_w, i32_w]
     rfl
    refine one_ (i := 6) (N := some 21) #[true, true, true, true, true, true, true, false, false, false, true, false, false] rfl rfl (one_of HT_.out (by kernel_rfl)) (by decide) (fun K hK => ?_)
    refine goes_ Try.func10 (by kernel_rfl) rfl #[.agg #[.int .i64 a0_0, .int .i64 a0_1], .int .i64 a0_2, .agg #[.int .i64 t234, .int .i64 t235, .int .i64 t236, .int .i64 t237, .bool t238]] (by rfl) rfl rfl (by (try simp only [List.map_toArray, List.map_cons, List.map_nil]); first | done | rfl | (simp only [List.length_drop, List.length_take]; rfl)) ?_
    with_reducible refine (place_Cells.calls a0_0 a0_1 a0_2 t234 t235 t236 t237 t238 t239 t240 t241 t242 t243 _ A4.out).mono ?_
    rintro e w123 ⟨rfl, hb⟩
    refine ⟨_, rfl, ?_⟩
    have n0_ := Aside0.mk (blk_below (g := gb232) (o := .cells #[.int .i64 a0_0, .int .i64 a0_1, .int .i64 a0_2] 26 (0, 0)) (by (with_reducible repeat (first | refine bN ?_ _ | refine bD ?_ | refine bA ?_ _)); exact BK232.out) hb)
    have n1_ := Aside0.mk (blk_below (g := gb233) (o := .cells #[.int .i64 a1_0, .int .i64 a1_1, .int .i64 a1_2, .int .i64 a1_3, .bool a1_4] 28 (0, 0)) (by (with_reducible repeat (first | refine bN ?_ _ | refine bD ?_ | refine bA ?_ _)); exact BK233.out) hb)
    have n2_ := Aside0.mk (blk_below (g := gb244) (o := .cells #[.int .i64 0, .int .i64 0, .int .i64 0, .int .i64 0] 33 (0, 0)) (by (with_reducible repeat (first | refine bN ?_ _ | refine bD ?_ | refine bA ?_ _)); exact BK244.out) hb)
    have n3_ := Aside0.mk (below_step (by repeat (first | (with_reducible first | exact HB.out | apply below_alloc | apply pw_below_drewN | apply below_drew1 | refine bS ?_ GE232.out | refine bS ?_ GE233.out | refine bS ?_ GE244.out) | exact HB.out)) hb)
    clear BK232
    clear BK233
    clear BK244
    clear HB
    have BK232 := n0_
    have BK233 := n1_
    have BK244 := n2_
    have HB := n3_
    clear n0_ n1_ n2_ n3_
    (try clear hb)
    (try clear hb2)
    (try clear hk)
    (try clear hi)
    refine hK.out _ _ ⟨(blk_cell BK232.out 0).trans rfl, (blk_cell BK232.out 1).trans rfl, (blk_cell BK232.out 2).trans rfl, (blk_cell BK233.out 0).trans rfl, (blk_cell BK233.out 1).trans rfl, (blk_cell BK233.out 2).trans rfl, (blk_cell BK233.out 3).trans rfl, (blk_cell BK233.out 4).trans rfl⟩ (fun hHeld => ?_)
    clear hK K
    refine norm_ (a' := ?_) ?_ ?_
    rotate_left
    ·show Act.put _ (some 21) _ = _
     simp only [Act.put, List.setIfInBounds_toArray, List.set_cons_zero, List.set_cons_succ, i64_w, i32_w]
     rfl
    refine pure_ (i := 7) (N := some 14) (v := ?_) (a' := ?_) #[true, true, true, true, true, true, true, true, false, false, true, false, false] rfl rfl (any_of HT_.out (by kernel_rfl)) (fun _ _ _ h => h) (Or.inl ⟨by rfl, ?_⟩) ?_ ?_
    rotate_left
    ·intro w'
     go_simp
     with_reducible rfl
    rotate_left
    ·simp only [Act.put, List.setIfInBounds_toArray, List.set_cons_zero, List.set_cons_succ, i64_w, i32_w]
     rfl
    refine pure_ (i := 8) (N := some 22) (v := ?_) (a' := ?_) #[true, true, true, true, true, true, true, true, true, false, true, false, false] rfl rfl (any_of HT_.out (by kernel_rfl)) (fun _ _ _ h => h) (Or.inl ⟨by rfl, ?_⟩) ?_ ?_
    rotate_left
    ·intro w'
     go_simp
     with_reducible rfl
    rotate_left
    ·simp only [Act.put, List.setIfInBounds_toArray, List.set_cons_zero, List.set_cons_succ, i64_w, i32_w]
     rfl
    refine pure_ (i := 9) (N := some 23) (v := ?_) (a' := ?_) #[true, true, true, true, true, true, true, true, true, true, true, false, false] rfl rfl (any_of HT_.out (by kernel_rfl)) (fun _ _ _ h => h) (Or.inl ⟨by rfl, ?_⟩) ?_ ?_
    rotate_left
    ·intro w'
     go_simp
     with_reducible rfl
    rotate_left
    ·simp only [Act.put, List.setIfInBounds_toArray, List.set_cons_zero, List.set_cons_succ, i64_w, i32_w]
     rfl
    exact norm_ (by simp only [putAll, Act.put, List.setIfInBounds_toArray, List.set_cons_zero, List.set_cons_succ]) (hCont (gb244) _ ⟨hHeld, (by (with_reducible repeat (first | refine bN ?_ _ | refine bD ?_ | refine bA ?_ _)); exact BK232.out), (by (with_reducible repeat (first | refine bN ?_ _ | refine bD ?_ | refine bA ?_ _)); exact BK233.out), (by (with_reducible repeat (first | refine bN ?_ _ | refine bD ?_ | refine bA ?_ _)); exact BK244.out), GW244.out, GE244.out, NB232_244.out, NB244_232.out, NB233_244.out, NB244_233.out, (by repeat (first | (with_reducible first | exact HB.out | apply below_alloc | apply pw_below_drewN | apply below_drew1 | refine bS ?_ GE232.out | refine bS ?_ GE233.out | refine bS ?_ GE244.out) | exact HB.out))⟩)
  rintro gb244 w124 ⟨hS_, h0_, h1_, h2_, h3_, h4_, h5_, h6_, h7_, h8_, h9_⟩
  have n0_ : Aside0 (w124.heap[gb232]? = some (.cells #[.int .i64 a0_0, .int .i64 a0_1, .int .i64 a0_2] 26 (0, 0))) := ⟨h0_⟩
  have n1_ : Aside0 (w124.heap[gb233]? = some (.cells #[.int .i64 a1_0, .int .i64 a1_1, .int .i64 a1_2, .int .i64 a1_3, .bool a1_4] 28 (0, 0))) := ⟨h1_⟩
  have n2_ : Aside0 (w124.heap[gb244]? = some (.cells #[.int .i64 0, .int .i64 0, .int .i64 0, .int .i64 0] 33 (0, 0))) := ⟨h2_⟩
  have n3_ : Aside0 (w.heap.size ≤ gb244) := ⟨h3_⟩
  have n4_ : Aside0 (w.heap.size ≤ gb244) := ⟨h4_⟩
  have n5_ : Aside0 (gb232 ≠ gb244) := ⟨h5_⟩
  have n6_ : Aside0 (gb244 ≠ gb232) := ⟨h6_⟩
  have n7_ : Aside0 (gb233 ≠ gb244) := ⟨h7_⟩
  have n8_ : Aside0 (gb244 ≠ gb233) := ⟨h8_⟩
  have n9_ : Aside0 (Below w.heap.size w w124) := ⟨h9_⟩
  clear BK232
  clear BK233
  clear HB
  clear h0_ h1_ h2_ h3_ h4_ h5_ h6_ h7_ h8_ h9_
  have BK232 := n0_
  have BK233 := n1_
  have BK244 := n2_
  have GW244 := n3_
  have GE244 := n4_
  have NB232_244 := n5_
  have NB244_232 := n6_
  have NB233_244 := n7_
  have NB244_233 := n8_
  have HB := n9_
  clear n0_ n1_ n2_ n3_ n4_ n5_ n6_ n7_ n8_ n9_
  have hHeld : w124.cell? ⟨gb232, 0, none⟩ = some (.int .i64 a0_0) ∧ w124.cell? ⟨gb232, 1, none⟩ = some (.int .i64 a0_1) ∧ w124.cell? ⟨gb232, 2, none⟩ = some (.int .i64 a0_2) ∧ w124.cell? ⟨gb233, 0, none⟩ = some (.int .i64 a1_0) ∧ w124.cell? ⟨gb233, 1, none⟩ = some (.int .i64 a1_1) ∧ w124.cell? ⟨gb233, 2, none⟩ = some (.int .i64 a1_2) ∧ w124.cell? ⟨gb233, 3, none⟩ = some (.int .i64 a1_3) ∧ w124.cell? ⟨gb233, 4, none⟩ = some (.bool a1_4) := hS_
  refine norm_ (a' := ?_) ?_ ?_
  rotate_left
  ·simp only [putAll, Act.put, List.setIfInBounds_toArray, List.set_cons_zero, List.set_cons_succ]
   rfl
  refine one_ (i := 11) (N := none) #[true, true, true, true, true, true, true, true, true, true, true, true, false] rfl rfl (one_of HT_.out (by kernel_rfl)) (by decide) (fun K hK => ?_)
  have hs125 := cI BK244.out 0 rfl
  have hfs125 := bF BK244.out 0
  have hns125_0 := NB232_244.out
  have hns125_1 := NB233_244.out
  have hms125_0 := NB244_232.out
  have hms125_1 := NB244_233.out
  have hs126 := cI BK244.out 1 rfl
  have hfs126 := bF BK244.out 1
  have hns126_0 := NB232_244.out
  have hns126_1 := NB233_244.out
  have hms126_0 := NB244_232.out
  have hms126_1 := NB244_233.out
  have hs127 := cI BK244.out 2 rfl
  have hfs127 := bF BK244.out 2
  have hns127_0 := NB232_244.out
  have hns127_1 := NB233_244.out
  have hms127_0 := NB244_232.out
  have hms127_1 := NB244_233.out
  have hs128 := cI BK244.out 3 rfl
  have hfs128 := bF BK244.out 3
  have hns128_0 := NB232_244.out
  have hns128_1 := NB233_244.out
  have hms128_0 := NB244_232.out
  have hms128_1 := NB244_233.out
  refine skip_ (w1 := ?_) (by rfl) rfl ?_ ?_
  rotate_left
  ·go_simp
   rfl
  refine hK.out _ _ ⟨((cell_far (p := ⟨gb244, _, none⟩) NB232_244.out _).trans (((cell_far (p := ⟨gb244, _, none⟩) NB232_244.out _).trans (((cell_far (p := ⟨gb244, _, none⟩) NB232_244.out _).trans (((cell_far (p := ⟨gb244, _, none⟩) NB232_244.out _).trans (hHeld.1)))))))), ((cell_far (p := ⟨gb244, _, none⟩) NB232_244.out _).trans (((cell_far (p := ⟨gb244, _, none⟩) NB232_244.out _).trans (((cell_far (p := ⟨gb244, _, none⟩) NB232_244.out _).trans (((cell_far (p := ⟨gb244, _, none⟩) NB232_244.out _).trans (hHeld.2.1)))))))), ((cell_far (p := ⟨gb244, _, none⟩) NB232_244.out _).trans (((cell_far (p := ⟨gb244, _, none⟩) NB232_244.out _).trans (((cell_far (p := ⟨gb244, _, none⟩) NB232_244.out _).trans (((cell_far (p := ⟨gb244, _, none⟩) NB232_244.out _).trans (hHeld.2.2.1)))))))), ((cell_far (p := ⟨gb244, _, none⟩) NB233_244.out _).trans (((cell_far (p := ⟨gb244, _, none⟩) NB233_244.out _).trans (((cell_far (p := ⟨gb244, _, none⟩) NB233_244.out _).trans (((cell_far (p := ⟨gb244, _, none⟩) NB233_244.out _).trans (hHeld.2.2.2.1)))))))), ((cell_far (p := ⟨gb244, _, none⟩) NB233_244.out _).trans (((cell_far (p := ⟨gb244, _, none⟩) NB233_244.out _).trans (((cell_far (p := ⟨gb244, _, none⟩) NB233_244.out _).trans (((cell_far (p := ⟨gb244, _, none⟩) NB233_244.out _).trans (hHeld.2.2.2.2.1)))))))), ((cell_far (p := ⟨gb244, _, none⟩) NB233_244.out _).trans (((cell_far (p := ⟨gb244, _, none⟩) NB233_244.out _).trans (((cell_far (p := ⟨gb244, _, none⟩) NB233_244.out _).trans (((cell_far (p := ⟨gb244, _, none⟩) NB233_244.out _).trans (hHeld.2.2.2.2.2.1)))))))), ((cell_far (p := ⟨gb244, _, none⟩) NB233_244.out _).trans (((cell_far (p := ⟨gb244, _, none⟩) NB233_244.out _).trans (((cell_far (p := ⟨gb244, _, none⟩) NB233_244.out _).trans (((cell_far (p := ⟨gb244, _, none⟩) NB233_244.out _).trans (hHeld.2.2.2.2.2.2.1)))))))), ((cell_far (p := ⟨gb244, _, none⟩) NB233_244.out _).trans (((cell_far (p := ⟨gb244, _, none⟩) NB233_244.out _).trans (((cell_far (p := ⟨gb244, _, none⟩) NB233_244.out _).trans (((cell_far (p := ⟨gb244, _, none⟩) NB233_244.out _).trans (hHeld.2.2.2.2.2.2.2))))))))⟩ (fun hHeld => ?_)
  clear hK K
  refine pure_ (i := 12) (N := some 6) (v := ?_) (a' := ?_) #[true, true, true, true, true, true, true, true, true, true, true, true, true] rfl rfl (any_of HT_.out (by kernel_rfl)) (fun _ _ _ h => h) (Or.inl ⟨by rfl, ?_⟩) ?_ ?_
  rotate_left
  ·intro w'
   go_simp
   with_reducible rfl
  rotate_left
  ·simp only [Act.put, List.setIfInBounds_toArray, List.set_cons_zero, List.set_cons_succ, i64_w, i32_w]
   rfl
  refine done_ (done_of HT_.out (by kernel_rfl)) ?_
  try go_wp2_with (first | ((with_reducible refine gate_callee (f := 13) rfl ?_); refine goesL_ (some 26) rfl rfl Try.func13 (by kernel_rfl) rfl #[] rfl (by (try simp only [List.map_toArray, List.map_cons, List.map_nil]); first | done | rfl | (simp only [List.length_drop, List.length_take]; rfl)) ?_; (with_reducible refine (frisketlaw19_alive.calls  t245 _ A117.out).mono ?_); rintro e w129 ⟨rfl, hb⟩; refine ⟨_, rfl, ?_⟩; have n0_ := Aside0.mk (blk_below (g := gb232) (o := .cells #[.int .i64 a0_0, .int .i64 a0_1, .int .i64 a0_2] 26 (0, 0)) (by (with_reducible repeat (first | refine bN ?_ _ | refine bD ?_ | refine bA ?_ _)); refine blk_far ?_ NB232_244.out _; (with_reducible repeat (first | refine bN ?_ _ | refine bD ?_ | refine bA ?_ _)); refine blk_far ?_ NB232_244.out _; (with_reducible repeat (first | refine bN ?_ _ | refine bD ?_ | refine bA ?_ _)); refine blk_far ?_ NB232_244.out _; (with_reducible repeat (first | refine bN ?_ _ | refine bD ?_ | refine bA ?_ _)); refine blk_far ?_ NB232_244.out _; (with_reducible repeat (first | refine bN ?_ _ | refine bD ?_ | refine bA ?_ _)); exact BK232.out) hb); have n1_ := Aside0.mk (blk_below (g := gb233) (o := .cells #[.int .i64 a1_0, .int .i64 a1_1, .int .i64 a1_2, .int .i64 a1_3, .bool a1_4] 28 (0, 0)) (by (with_reducible repeat (first | refine bN ?_ _ | refine bD ?_ | refine bA ?_ _)); refine blk_far ?_ NB233_244.out _; (with_reducible repeat (first | refine bN ?_ _ | refine bD ?_ | refine bA ?_ _)); refine blk_far ?_ NB233_244.out _; (with_reducible repeat (first | refine bN ?_ _ | refine bD ?_ | refine bA ?_ _)); refine blk_far ?_ NB233_244.out _; (with_reducible repeat (first | refine bN ?_ _ | refine bD ?_ | refine bA ?_ _)); refine blk_far ?_ NB233_244.out _; (with_reducible repeat (first | refine bN ?_ _ | refine bD ?_ | refine bA ?_ _)); exact BK233.out) hb); have n2_ := Aside0.mk (blk_below (g := gb244) (o := .cells #[.int .i64 t239, .int .i64 t240, .int .i64 t241, .int .i64 t242] 33 (0, 0)) (by (with_reducible repeat (first | refine bN ?_ _ | refine bD ?_ | refine bA ?_ _)); refine blk_put (cs := #[.int .i64 t239, .int .i64 t240, .int .i64 t241, .int .i64 0]) ?_ 3 _ rfl; (with_reducible repeat (first | refine bN ?_ _ | refine bD ?_ | refine bA ?_ _)); refine blk_put (cs := #[.int .i64 t239, .int .i64 t240, .int .i64 0, .int .i64 0]) ?_ 2 _ rfl; (with_reducible repeat (first | refine bN ?_ _ | refine bD ?_ | refine bA ?_ _)); refine blk_put (cs := #[.int .i64 t239, .int .i64 0, .int .i64 0, .int .i64 0]) ?_ 1 _ rfl; (with_reducible repeat (first | refine bN ?_ _ | refine bD ?_ | refine bA ?_ _)); refine blk_put (cs := #[.int .i64 0, .int .i64 0, .int .i64 0, .int .i64 0]) ?_ 0 _ rfl; (with_reducible repeat (first | refine bN ?_ _ | refine bD ?_ | refine bA ?_ _)); exact BK244.out) hb); have n3_ := Aside0.mk (below_step (by repeat (first | (with_reducible first | exact HB.out | apply below_alloc | apply pw_below_drewN | apply below_drew1 | refine bS ?_ GE232.out | refine bS ?_ GE233.out | refine bS ?_ GE244.out) | exact HB.out)) hb); clear BK232; clear BK233; clear BK244; clear HB; have BK232 := n0_; have BK233 := n1_; have BK244 := n2_; have HB := n3_; clear n0_ n1_ n2_ n3_; (try clear hb); (try clear hb2); (try clear hk); (try clear hi)))
  go_ret
  exact ⟨by first | rfl | (simp [errW_none, errW_some] <;> rfl) | (simp [*, errW_none, errW_some] <;> rfl), by repeat (first | (with_reducible first | exact HB.out | apply below_alloc | apply pw_below_drewN | apply below_drew1 | refine bS ?_ GE232.out | refine bS ?_ GE233.out | refine bS ?_ GE244.out) | exact HB.out)⟩

end Go.Proofs.Ytfaaahchcghnlaa.P
