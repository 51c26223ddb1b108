/- Written by wip/tools/gprint.py of this repo over the translation: Lean functions that answer as the Go functions named below do, and the proof of it; the conditions stand in each theorem. -/
import Derived.Test.YtplindcfnlonbaaP0
import Derived.Test.YtplindcfnlonbaaP6
import Derived.Test.YtplindcfnlonbaaP7
import Derived.Test.YtplindcfnlonbaaP9
import Derived.Test.YtplindcfnlonbaaP10
import Derived.Test.YtplindcfnlonbaaP11
import Derived.Test.YtplindcfnlonbaaHSettle
namespace Go.Proofs.Ytplindcfnlonbaa.P
open Go.RowKit Go.Proofs.YtplindcfnlonbaaW.PrintWords Go.Proofs.YtplindcfnlonbaaW.PrintLast Go.Proofs.YtplindcfnlonbaaW.PrintMore
attribute [local go_sem] max2_int min2_int max_two min_two max_three min_three max_four min_four   -- for this text's walks alone
set_option linter.unusedVariables false
set_option linter.unusedSimpArgs false

/-! ### frisketlaw12_NeutralNone: function 4 -/
mutual
def frisketlaw12_NeutralNone.j0 : Nat → List Int → List Int → Bool → Int → Int → Int → Option (Bool)
  | 0, _, _, _, _, _, _ => none
  | k + 1, x0, x5, x28, x216000, x216001, x216002 => if x28 = true then ((frisketlaw12_alive.f k).bind fun t223 => (some t223)) else ((frisketlaw12_seq.f x216000 x216001 x216002).bind fun bt224 => ((neutral_Settle.f x5 bt224.1 bt224.2.1 bt224.2.2).bind fun bt227 => ((neutral_Raise.f k x5 x216000).bind fun bt231 => (if bt227.2 = 0 then (if bt231.2 = 0 then (if (x5.length : Int) = (x0.length : Int) then (if (bt231.1.length : Int) = (x0.length : Int) then ((frisketlaw08_Same.f k x5 bt227.1).bind fun t235 => (frisketlaw12_NeutralNone.j1 k x0 x5 bt231.1 (!t235) x216000 x216001 x216002)) else (frisketlaw12_NeutralNone.j1 k x0 x5 bt231.1 true x216000 x216001 x216002)) else (frisketlaw12_NeutralNone.j1 k x0 x5 bt231.1 true x216000 x216001 x216002)) else (frisketlaw12_NeutralNone.j1 k x0 x5 bt231.1 true x216000 x216001 x216002)) else (frisketlaw12_NeutralNone.j1 k x0 x5 bt231.1 true x216000 x216001 x216002)))))
def frisketlaw12_NeutralNone.j1 : Nat → List Int → List Int → List Int → Bool → Int → Int → Int → Option (Bool)
  | 0, _, _, _, _, _, _, _ => none
  | k + 1, x0, x5, x9, x69, x216000, x216001, x216002 => if x69 = true then (some false) else (frisketlaw12_NeutralNone.l0 k x0 x5 x9 0 x216000 x216001 x216002)
def frisketlaw12_NeutralNone.l0 : Nat → List Int → List Int → List Int → Int → Int → Int → Int → Option (Bool)
  | 0, _, _, _, _, _, _, _ => none
  | k + 1, x0, x5, x9, x11, x216000, x216001, x216002 => if x11 < (x0.length : Int) then (if 0 ≤ x11 then ((frisketref12_Neutral.f (rd x0 x11)).bind fun t238 => (if x11 < (x5.length : Int) then ((frisketref12_Neutral.f (rd x5 x11)).bind fun t240 => (if t240 = true then (frisketlaw12_NeutralNone.j3 k x0 x5 x9 x11 true x216000 x216001 x216002) else (if t238 = true then (if (rd x5 x11) = 0 then (if x11 < (x9.length : Int) then (if (rd x9 x11) < x216000 then (frisketlaw12_NeutralNone.j3 k x0 x5 x9 x11 true x216000 x216001 x216002) else (frisketlaw12_NeutralNone.j3 k x0 x5 x9 x11 (decide ((rd x9 x11) > (wrap64 (x216000 + 2)))) x216000 x216001 x216002)) else (none)) else (if (rd x5 x11) = 1 then (if x11 < (x9.length : Int) then (if (rd x9 x11) < x216000 then (frisketlaw12_NeutralNone.j3 k x0 x5 x9 x11 true x216000 x216001 x216002) else (frisketlaw12_NeutralNone.j3 k x0 x5 x9 x11 (decide ((rd x9 x11) > (wrap64 (x216000 + 2)))) x216000 x216001 x216002)) else (none)) else (frisketlaw12_NeutralNone.j3 k x0 x5 x9 x11 true x216000 x216001 x216002))) else (if (rd x5 x11) = (rd x0 x11) then (if x11 < (x9.length : Int) then (if (rd x9 x11) < x216000 then (frisketlaw12_NeutralNone.j3 k x0 x5 x9 x11 true x216000 x216001 x216002) else (frisketlaw12_NeutralNone.j3 k x0 x5 x9 x11 (decide ((rd x9 x11) > (wrap64 (x216000 + 2)))) x216000 x216001 x216002)) else (none)) else (frisketlaw12_NeutralNone.j3 k x0 x5 x9 x11 true x216000 x216001 x216002))))) else (none))) else (none)) else ((frisketlaw12_alive.f k).bind fun t236 => (some t236))
def frisketlaw12_NeutralNone.j3 : Nat → List Int → List Int → List Int → Int → Bool → Int → Int → Int → Option (Bool)
  | 0, _, _, _, _, _, _, _, _ => none
  | k + 1, x0, x5, x9, x11, x137, x216000, x216001, x216002 => if x137 = true then (some false) else (if 0 ≤ x11 then (if x11 < (x5.length : Int) then (if (rd x5 x11) = 0 then (if x11 < (x9.length : Int) then (if (Int.tmod (rd x9 x11) 2) = 0 then (if (rd x5 x11) = 1 then (if (Int.tmod (rd x9 x11) 2) = 1 then (frisketlaw12_NeutralNone.l0 k x0 x5 x9 (wrap64 (x11 + 1)) x216000 x216001 x216002) else (some false)) else (frisketlaw12_NeutralNone.l0 k x0 x5 x9 (wrap64 (x11 + 1)) x216000 x216001 x216002)) else (some false)) else (none)) else (if (rd x5 x11) = 3 then (if x11 < (x9.length : Int) then (if (Int.tmod (rd x9 x11) 2) = 0 then (if (rd x5 x11) = 1 then (if (Int.tmod (rd x9 x11) 2) = 1 then (frisketlaw12_NeutralNone.l0 k x0 x5 x9 (wrap64 (x11 + 1)) x216000 x216001 x216002) else (some false)) else (frisketlaw12_NeutralNone.l0 k x0 x5 x9 (wrap64 (x11 + 1)) x216000 x216001 x216002)) else (some false)) else (none)) else (if (rd x5 x11) = 6 then (if x11 < (x9.length : Int) then (if (Int.tmod (rd x9 x11) 2) = 0 then (if (rd x5 x11) = 1 then (if (Int.tmod (rd x9 x11) 2) = 1 then (frisketlaw12_NeutralNone.l0 k x0 x5 x9 (wrap64 (x11 + 1)) x216000 x216001 x216002) else (some false)) else (frisketlaw12_NeutralNone.l0 k x0 x5 x9 (wrap64 (x11 + 1)) x216000 x216001 x216002)) else (some false)) else (none)) else (if (rd x5 x11) = 1 then (if x11 < (x9.length : Int) then (if (Int.tmod (rd x9 x11) 2) = 1 then (frisketlaw12_NeutralNone.l0 k x0 x5 x9 (wrap64 (x11 + 1)) x216000 x216001 x216002) else (some false)) else (none)) else (frisketlaw12_NeutralNone.l0 k x0 x5 x9 (wrap64 (x11 + 1)) x216000 x216001 x216002))))) else (none)) else (none))
end
def frisketlaw12_NeutralNone.f (k : Nat) (l0 : List Int) (a1_0 : Int) (a1_1 : Int) (a1_2 : Int) : Option (Bool) := (frisketlaw12_seq.f a1_0 a1_1 a1_2).bind fun bt216 => ((neutral_Settle.f l0 bt216.1 bt216.2.1 bt216.2.2).bind fun bt219 => (if (l0.length : Int) > 150 then (frisketlaw12_NeutralNone.j0 k l0 bt219.1 true a1_0 a1_1 a1_2) else (frisketlaw12_NeutralNone.j0 k l0 bt219.1 (bt219.2 != 0) a1_0 a1_1 a1_2)))
theorem frisketlaw12_NeutralNone.mono_l : ∀ k, (∀ y0 y1 y2 y3 y4 y5, LeO (frisketlaw12_NeutralNone.j0 k y0 y1 y2 y3 y4 y5) (frisketlaw12_NeutralNone.j0 (k + 1) y0 y1 y2 y3 y4 y5)) ∧ (∀ y0 y1 y2 y3 y4 y5 y6, LeO (frisketlaw12_NeutralNone.j1 k y0 y1 y2 y3 y4 y5 y6) (frisketlaw12_NeutralNone.j1 (k + 1) y0 y1 y2 y3 y4 y5 y6)) ∧ (∀ y0 y1 y2 y3 y4 y5 y6, LeO (frisketlaw12_NeutralNone.l0 k y0 y1 y2 y3 y4 y5 y6) (frisketlaw12_NeutralNone.l0 (k + 1) y0 y1 y2 y3 y4 y5 y6)) ∧ (∀ y0 y1 y2 y3 y4 y5 y6 y7, LeO (frisketlaw12_NeutralNone.j3 k y0 y1 y2 y3 y4 y5 y6 y7) (frisketlaw12_NeutralNone.j3 (k + 1) y0 y1 y2 y3 y4 y5 y6 y7))
  | 0 => ⟨fun _ _ _ _ _ _ r h => by simp [frisketlaw12_NeutralNone.j0] at h, fun _ _ _ _ _ _ _ r h => by simp [frisketlaw12_NeutralNone.j1] at h, fun _ _ _ _ _ _ _ r h => by simp [frisketlaw12_NeutralNone.l0] at h, fun _ _ _ _ _ _ _ _ r h => by simp [frisketlaw12_NeutralNone.j3] at h⟩
  | k + 1 => by
    obtain ⟨ih0, ih1, ih2, ih3⟩ := frisketlaw12_NeutralNone.mono_l k
    refine ⟨?_, ?_, ?_, ?_⟩
    · intro y0 y1 y2 y3 y4 y5
      unfold frisketlaw12_NeutralNone.j0
      repeat' first
      | (with_reducible exact ih0 _ _ _ _ _ _)
      | (with_reducible exact ih1 _ _ _ _ _ _ _)
      | (with_reducible exact ih2 _ _ _ _ _ _ _)
      | (with_reducible exact ih3 _ _ _ _ _ _ _ _)
      | (with_reducible exact frisketlaw08_Same.mono _ _ _)
      | (with_reducible exact frisketlaw12_alive.mono _)
      | (with_reducible exact neutral_Raise.mono _ _ _)
      | (with_reducible exact LeO.refl _)
      | (with_reducible exact LeO.none _)
      | (with_reducible refine LeO.ite ?_ ?_)
      | (with_reducible refine LeO.bind ?_ (fun _ => ?_))
      | exact ih0 _ _ _ _ _ _
      | exact ih1 _ _ _ _ _ _ _
      | exact ih2 _ _ _ _ _ _ _
      | exact ih3 _ _ _ _ _ _ _ _
      | exact frisketlaw08_Same.mono _ _ _
      | exact frisketlaw12_alive.mono _
      | exact neutral_Raise.mono _ _ _
      | exact LeO.none _
      | refine LeO.ite ?_ ?_
      | refine LeO.bind ?_ (fun _ => ?_)
    · intro y0 y1 y2 y3 y4 y5 y6
      unfold frisketlaw12_NeutralNone.j1
      repeat' first
      | (with_reducible exact ih0 _ _ _ _ _ _)
      | (with_reducible exact ih1 _ _ _ _ _ _ _)
      | (with_reducible exact ih2 _ _ _ _ _ _ _)
      | (with_reducible exact ih3 _ _ _ _ _ _ _ _)
      | (with_reducible exact frisketlaw08_Same.mono _ _ _)
      | (with_reducible exact frisketlaw12_alive.mono _)
      | (with_reducible exact neutral_Raise.mono _ _ _)
      | (with_reducible exact LeO.refl _)
      | (with_reducible exact LeO.none _)
      | (with_reducible refine LeO.ite ?_ ?_)
      | (with_reducible refine LeO.bind ?_ (fun _ => ?_))
      | exact ih0 _ _ _ _ _ _
      | exact ih1 _ _ _ _ _ _ _
      | exact ih2 _ _ _ _ _ _ _
      | exact ih3 _ _ _ _ _ _ _ _
      | exact frisketlaw08_Same.mono _ _ _
      | exact frisketlaw12_alive.mono _
      | exact neutral_Raise.mono _ _ _
      | exact LeO.none _
      | refine LeO.ite ?_ ?_
      | refine LeO.bind ?_ (fun _ => ?_)
    · intro y0 y1 y2 y3 y4 y5 y6
      unfold frisketlaw12_NeutralNone.l0
      repeat' first
      | (with_reducible exact ih0 _ _ _ _ _ _)
      | (with_reducible exact ih1 _ _ _ _ _ _ _)
      | (with_reducible exact ih2 _ _ _ _ _ _ _)
      | (with_reducible exact ih3 _ _ _ _ _ _ _ _)
      | (with_reducible exact frisketlaw08_Same.mono _ _ _)
      | (with_reducible exact frisketlaw12_alive.mono _)
      | (with_reducible exact neutral_Raise.mono _ _ _)
      | (with_reducible exact LeO.refl _)
      | (with_reducible exact LeO.none _)
      | (with_reducible refine LeO.ite ?_ ?_)
      | (with_reducible refine LeO.bind ?_ (fun _ => ?_))
      | exact ih0 _ _ _ _ _ _
      | exact ih1 _ _ _ _ _ _ _
      | exact ih2 _ _ _ _ _ _ _
      | exact ih3 _ _ _ _ _ _ _ _
      | exact frisketlaw08_Same.mono _ _ _
      | exact frisketlaw12_alive.mono _
      | exact neutral_Raise.mono _ _ _
      | exact LeO.none _
      | refine LeO.ite ?_ ?_
      | refine LeO.bind ?_ (fun _ => ?_)
    · intro y0 y1 y2 y3 y4 y5 y6 y7
      unfold frisketlaw12_NeutralNone.j3
      repeat' first
      | (with_reducible exact ih0 _ _ _ _ _ _)
      | (with_reducible exact ih1 _ _ _ _ _ _ _)
      | (with_reducible exact ih2 _ _ _ _ _ _ _)
      | (with_reducible exact ih3 _ _ _ _ _ _ _ _)
      | (with_reducible exact frisketlaw08_Same.mono _ _ _)
      | (with_reducible exact frisketlaw12_alive.mono _)
      | (with_reducible exact neutral_Raise.mono _ _ _)
      | (with_reducible exact LeO.refl _)
      | (with_reducible exact LeO.none _)
      | (with_reducible refine LeO.ite ?_ ?_)
      | (with_reducible refine LeO.bind ?_ (fun _ => ?_))
      | exact ih0 _ _ _ _ _ _
      | exact ih1 _ _ _ _ _ _ _
      | exact ih2 _ _ _ _ _ _ _
      | exact ih3 _ _ _ _ _ _ _ _
      | exact frisketlaw08_Same.mono _ _ _
      | exact frisketlaw12_alive.mono _
      | exact neutral_Raise.mono _ _ _
      | exact LeO.none _
      | refine LeO.ite ?_ ?_
      | refine LeO.bind ?_ (fun _ => ?_)
theorem frisketlaw12_NeutralNone.mono : ∀ a0 a1 a2 a3 k, LeO (frisketlaw12_NeutralNone.f k a0 a1 a2 a3) (frisketlaw12_NeutralNone.f (k + 1) a0 a1 a2 a3) := by
  intro a0 a1 a2 a3 k
  obtain ⟨ih0, ih1, ih2, ih3⟩ := frisketlaw12_NeutralNone.mono_l k
  unfold frisketlaw12_NeutralNone.f
  repeat' first
      | (with_reducible exact ih0 _ _ _ _ _ _)
      | (with_reducible exact ih1 _ _ _ _ _ _ _)
      | (with_reducible exact ih2 _ _ _ _ _ _ _)
      | (with_reducible exact ih3 _ _ _ _ _ _ _ _)
      | (with_reducible exact frisketlaw08_Same.mono _ _ _)
      | (with_reducible exact frisketlaw12_alive.mono _)
      | (with_reducible exact neutral_Raise.mono _ _ _)
      | (with_reducible exact LeO.refl _)
      | (with_reducible exact LeO.none _)
      | (with_reducible refine LeO.ite ?_ ?_)
      | (with_reducible refine LeO.bind ?_ (fun _ => ?_))
      | exact ih0 _ _ _ _ _ _
      | exact ih1 _ _ _ _ _ _ _
      | exact ih2 _ _ _ _ _ _ _
      | exact ih3 _ _ _ _ _ _ _ _
      | exact frisketlaw08_Same.mono _ _ _
      | exact frisketlaw12_alive.mono _
      | exact neutral_Raise.mono _ _ _
      | exact LeO.none _
      | refine LeO.ite ?_ ?_
      | refine LeO.bind ?_ (fun _ => ?_)
set_option maxHeartbeats 8000000 in
set_option maxRecDepth 100000 in
theorem frisketlaw12_NeutralNone.calls (k : Nat) (A0 : Option Addr) (c0 : Nat) (l0 : List Int) (a1_0 : Int) (a1_1 : Int) (a1_2 : Int) (r : Bool) (w : World) (hr0 : Kd.C (Kd.int .i64) w A0 l0.length l0) (hc0 : l0.length ≤ c0) (hrt : r = true) (h : frisketlaw12_NeutralNone.f k l0 a1_0 a1_1 a1_2 = some r) :
    Calls Try.prog 4 #[.slice A0 l0.length c0, .agg #[.int .i64 a1_0, .int .i64 a1_1, .int .i64 a1_2]] w fun e w' => e = .returned (.bool r) ∧ Below w.heap.size w w' := by
  have hu25 := Try.underlying25
  have HR0 := Aside0.mk hr0
  have HC0 := Aside0.mk hc0
  clear hr0 hc0
  have HB := Aside0.mk (Below.refl w.heap.size w)
  have HRT := Aside0.mk hrt
  clear hrt
  have H : ((frisketlaw12_seq.f a1_0 a1_1 a1_2).bind fun bt216 => ((neutral_Settle.f l0 bt216.1 bt216.2.1 bt216.2.2).bind fun bt219 => (if (l0.length : Int) > 150 then (frisketlaw12_NeutralNone.j0 k l0 bt219.1 true a1_0 a1_1 a1_2) else (frisketlaw12_NeutralNone.j0 k l0 bt219.1 (bt219.2 != 0) a1_0 a1_1 a1_2)))) = some r := h
  clear h
  replace H := Option.bind_eq_some_iff.mp H
  obtain ⟨⟨t216, t217, t218⟩, A30, H⟩ := H
  replace H : ((neutral_Settle.f l0 t216 t217 t218).bind fun bt219 => (if (l0.length : Int) > 150 then (frisketlaw12_NeutralNone.j0 k l0 bt219.1 true a1_0 a1_1 a1_2) else (frisketlaw12_NeutralNone.j0 k l0 bt219.1 (bt219.2 != 0) a1_0 a1_1 a1_2))) = some r := H
  have A3 := Aside0.mk A30
  clear A30
  replace H := Option.bind_eq_some_iff.mp H
  obtain ⟨⟨t219, t222⟩, A40, H⟩ := H
  replace H : (if (l0.length : Int) > 150 then (frisketlaw12_NeutralNone.j0 k l0 t219 true a1_0 a1_1 a1_2) else (frisketlaw12_NeutralNone.j0 k l0 t219 (t222 != 0) a1_0 a1_1 a1_2)) = some r := H
  have A4 := Aside0.mk A40
  clear A40
  have HC5 := Aside0.mk H
  clear H
  go_enter Try.func4, Try.ntmps4
  go_upto_region 2 with (first | ((with_reducible refine gate_dst (N := 3) rfl ?_); (try (refine gate_guard (by rfl) ?_; dsimp only)); refine box_event ?hg (N := 3) ?hd (cs := #[.int .i64 a1_0, .int .i64 a1_1, .int .i64 a1_2]) (t := 25) ?hr ?_; (case hd => rfl); (case hg => rfl); (case hr => first | (go_simp; done) | (go_simp; rfl)); intro gb215 hg w6 hbox hb; have n0_ := Aside0.mk (below_step (by repeat (first | (with_reducible first | exact HB.out | apply below_alloc | apply pw_below_drewN | apply below_drew1) | exact HB.out)) hb); have n1_ := Aside0.mk (hbox); have n2_ := Aside0.mk ((by rw [hg]; exact (below_size (by repeat (first | (with_reducible first | exact HB.out | apply below_alloc | apply pw_below_drewN | apply below_drew1) | exact HB.out))) : w.heap.size ≤ gb215)); have n3_ := Aside0.mk ((by rw [hg]; exact (below_size (by repeat (first | (with_reducible first | exact HB.out | apply below_alloc | apply pw_below_drewN | apply below_drew1) | exact HB.out))) : w.heap.size ≤ gb215)); clear HB; have HB := n0_; have BK215 := n1_; have GW215 := n2_; have GE215 := n3_; clear n0_ n1_ n2_ n3_; clear hb hbox hg; have hcz7_0 : w6.cell? ⟨gb215, 0, none⟩ = some (.int .i64 a1_0) := (blk_cell BK215.out 0).trans rfl; have hcz7_1 : w6.cell? ⟨gb215, 1, none⟩ = some (.int .i64 a1_1) := (blk_cell BK215.out 1).trans rfl; have hcz7_2 : w6.cell? ⟨gb215, 2, none⟩ = some (.int .i64 a1_2) := (blk_cell BK215.out 2).trans rfl; have hfz7_0 := blk_frozen BK215.out 0; have hfz7_1 := blk_frozen BK215.out 1; have hfz7_2 := blk_frozen BK215.out 2) | (go_at_call 9; (with_reducible refine (frisketlaw12_seq.calls a1_0 a1_1 a1_2 t216 t217 t218 _ A3.out).mono ?_); rintro e w8 ⟨rfl, hb⟩; have n0_ := Aside0.mk (blk_below (g := gb215) (o := .cells #[.int .i64 a1_0, .int .i64 a1_1, .int .i64 a1_2] 25 (0, 0)) (by (with_reducible repeat (first | refine blk_drewN ?_ _ | refine blk_drew ?_ | refine blk_alloc ?_ _)); exact BK215.out) hb); have n1_ := Aside0.mk (below_step (by repeat (first | (with_reducible first | exact HB.out | apply below_alloc | apply pw_below_drewN | apply below_drew1 | refine below_set ?_ GE215.out) | exact HB.out)) hb); clear BK215; clear HB; have BK215 := n0_; have HB := n1_; clear n0_ n1_; (try clear hb); (try clear hb2); (try clear hk); (try clear hi)) | (go_at_call 8; (with_reducible refine (neutral_Settle.calls _ _ l0 t216 t217 t218 t219 t222 _ ?side1 ?side2 A4.out).mono ?_); (case side1 => repeat (first | exact (Kd.C_below HR0.out HB.out) | (with_reducible refine Kd.C_alloc ?_ _) | (with_reducible refine Kd.C_drewN ?_ _) | (with_reducible refine Kd.C_drew ?_))); (case side2 => exact HC0.out); rintro e w9 ⟨v220, rfl, ho0, hb⟩; have n0_ := Aside0.mk (Kd.R_lower ho0 (below_size (by repeat (first | (with_reducible first | exact HB.out | apply below_alloc | apply pw_below_drewN | apply below_drew1 | refine below_set ?_ GE215.out) | exact HB.out)))); have n1_ := Aside0.mk (blk_below (g := gb215) (o := .cells #[.int .i64 a1_0, .int .i64 a1_1, .int .i64 a1_2] 25 (0, 0)) (by (with_reducible repeat (first | refine blk_drewN ?_ _ | refine blk_drew ?_ | refine blk_alloc ?_ _)); exact BK215.out) hb); have n2_ := Aside0.mk (below_step (by repeat (first | (with_reducible first | exact HB.out | apply below_alloc | apply pw_below_drewN | apply below_drew1 | refine below_set ?_ GE215.out) | exact HB.out)) hb); clear BK215; clear HB; have HO221 := n0_; have BK215 := n1_; have HB := n2_; clear n0_ n1_ n2_; (try clear hb); (try clear hb2); (try clear hk); (try clear hi); (try clear ho0)))
  repeat (go_quiet (first | ((with_reducible refine gate_dst (N := 3) rfl ?_); (try (refine gate_guard (by rfl) ?_; dsimp only)); refine box_event ?hg (N := 3) ?hd (cs := #[.int .i64 a1_0, .int .i64 a1_1, .int .i64 a1_2]) (t := 25) ?hr ?_; (case hd => rfl); (case hg => rfl); (case hr => first | (go_simp; done) | (go_simp; rfl)); intro gb215 hg w6 hbox hb; have n0_ := Aside0.mk (below_step (by repeat (first | (with_reducible first | exact HB.out | apply below_alloc | apply pw_below_drewN | apply below_drew1) | exact HB.out)) hb); have n1_ := Aside0.mk (hbox); have n2_ := Aside0.mk ((by rw [hg]; exact (below_size (by repeat (first | (with_reducible first | exact HB.out | apply below_alloc | apply pw_below_drewN | apply below_drew1) | exact HB.out))) : w.heap.size ≤ gb215)); have n3_ := Aside0.mk ((by rw [hg]; exact (below_size (by repeat (first | (with_reducible first | exact HB.out | apply below_alloc | apply pw_below_drewN | apply below_drew1) | exact HB.out))) : w.heap.size ≤ gb215)); clear HB; have HB := n0_; have BK215 := n1_; have GW215 := n2_; have GE215 := n3_; clear n0_ n1_ n2_ n3_; clear hb hbox hg; have hcz7_0 : w6.cell? ⟨gb215, 0, none⟩ = some (.int .i64 a1_0) := (blk_cell BK215.out 0).trans rfl; have hcz7_1 : w6.cell? ⟨gb215, 1, none⟩ = some (.int .i64 a1_1) := (blk_cell BK215.out 1).trans rfl; have hcz7_2 : w6.cell? ⟨gb215, 2, none⟩ = some (.int .i64 a1_2) := (blk_cell BK215.out 2).trans rfl; have hfz7_0 := blk_frozen BK215.out 0; have hfz7_1 := blk_frozen BK215.out 1; have hfz7_2 := blk_frozen BK215.out 2) | (go_at_call 9; (with_reducible refine (frisketlaw12_seq.calls a1_0 a1_1 a1_2 t216 t217 t218 _ A3.out).mono ?_); rintro e w8 ⟨rfl, hb⟩; have n0_ := Aside0.mk (blk_below (g := gb215) (o := .cells #[.int .i64 a1_0, .int .i64 a1_1, .int .i64 a1_2] 25 (0, 0)) (by (with_reducible repeat (first | refine blk_drewN ?_ _ | refine blk_drew ?_ | refine blk_alloc ?_ _)); exact BK215.out) hb); have n1_ := Aside0.mk (below_step (by repeat (first | (with_reducible first | exact HB.out | apply below_alloc | apply pw_below_drewN | apply below_drew1 | refine below_set ?_ GE215.out) | exact HB.out)) hb); clear BK215; clear HB; have BK215 := n0_; have HB := n1_; clear n0_ n1_; (try clear hb); (try clear hb2); (try clear hk); (try clear hi)) | (go_at_call 8; (with_reducible refine (neutral_Settle.calls _ _ l0 t216 t217 t218 t219 t222 _ ?side1 ?side2 A4.out).mono ?_); (case side1 => repeat (first | exact (Kd.C_below HR0.out HB.out) | (with_reducible refine Kd.C_alloc ?_ _) | (with_reducible refine Kd.C_drewN ?_ _) | (with_reducible refine Kd.C_drew ?_))); (case side2 => exact HC0.out); rintro e w9 ⟨v220, rfl, ho0, hb⟩; have n0_ := Aside0.mk (Kd.R_lower ho0 (below_size (by repeat (first | (with_reducible first | exact HB.out | apply below_alloc | apply pw_below_drewN | apply below_drew1 | refine below_set ?_ GE215.out) | exact HB.out)))); have n1_ := Aside0.mk (blk_below (g := gb215) (o := .cells #[.int .i64 a1_0, .int .i64 a1_1, .int .i64 a1_2] 25 (0, 0)) (by (with_reducible repeat (first | refine blk_drewN ?_ _ | refine blk_drew ?_ | refine blk_alloc ?_ _)); exact BK215.out) hb); have n2_ := Aside0.mk (below_step (by repeat (first | (with_reducible first | exact HB.out | apply below_alloc | apply pw_below_drewN | apply below_drew1 | refine below_set ?_ GE215.out) | exact HB.out)) hb); clear BK215; clear HB; have HO221 := n0_; have BK215 := n1_; have HB := n2_; clear n0_ n1_ n2_; (try clear hb); (try clear hb2); (try clear hk); (try clear hi); (try clear ho0))); go_upto_region 2 with (first | ((with_reducible refine gate_dst (N := 3) rfl ?_); (try (refine gate_guard (by rfl) ?_; dsimp only)); refine box_event ?hg (N := 3) ?hd (cs := #[.int .i64 a1_0, .int .i64 a1_1, .int .i64 a1_2]) (t := 25) ?hr ?_; (case hd => rfl); (case hg => rfl); (case hr => first | (go_simp; done) | (go_simp; rfl)); intro gb215 hg w6 hbox hb; have n0_ := Aside0.mk (below_step (by repeat (first | (with_reducible first | exact HB.out | apply below_alloc | apply pw_below_drewN | apply below_drew1) | exact HB.out)) hb); have n1_ := Aside0.mk (hbox); have n2_ := Aside0.mk ((by rw [hg]; exact (below_size (by repeat (first | (with_reducible first | exact HB.out | apply below_alloc | apply pw_below_drewN | apply below_drew1) | exact HB.out))) : w.heap.size ≤ gb215)); have n3_ := Aside0.mk ((by rw [hg]; exact (below_size (by repeat (first | (with_reducible first | exact HB.out | apply below_alloc | apply pw_below_drewN | apply below_drew1) | exact HB.out))) : w.heap.size ≤ gb215)); clear HB; have HB := n0_; have BK215 := n1_; have GW215 := n2_; have GE215 := n3_; clear n0_ n1_ n2_ n3_; clear hb hbox hg; have hcz7_0 : w6.cell? ⟨gb215, 0, none⟩ = some (.int .i64 a1_0) := (blk_cell BK215.out 0).trans rfl; have hcz7_1 : w6.cell? ⟨gb215, 1, none⟩ = some (.int .i64 a1_1) := (blk_cell BK215.out 1).trans rfl; have hcz7_2 : w6.cell? ⟨gb215, 2, none⟩ = some (.int .i64 a1_2) := (blk_cell BK215.out 2).trans rfl; have hfz7_0 := blk_frozen BK215.out 0; have hfz7_1 := blk_frozen BK215.out 1; have hfz7_2 := blk_frozen BK215.out 2) | (go_at_call 9; (with_reducible refine (frisketlaw12_seq.calls a1_0 a1_1 a1_2 t216 t217 t218 _ A3.out).mono ?_); rintro e w8 ⟨rfl, hb⟩; have n0_ := Aside0.mk (blk_below (g := gb215) (o := .cells #[.int .i64 a1_0, .int .i64 a1_1, .int .i64 a1_2] 25 (0, 0)) (by (with_reducible repeat (first | refine blk_drewN ?_ _ | refine blk_drew ?_ | refine blk_alloc ?_ _)); exact BK215.out) hb); have n1_ := Aside0.mk (below_step (by repeat (first | (with_reducible first | exact HB.out | apply below_alloc | apply pw_below_drewN | apply below_drew1 | refine below_set ?_ GE215.out) | exact HB.out)) hb); clear BK215; clear HB; have BK215 := n0_; have HB := n1_; clear n0_ n1_; (try clear hb); (try clear hb2); (try clear hk); (try clear hi)) | (go_at_call 8; (with_reducible refine (neutral_Settle.calls _ _ l0 t216 t217 t218 t219 t222 _ ?side1 ?side2 A4.out).mono ?_); (case side1 => repeat (first | exact (Kd.C_below HR0.out HB.out) | (with_reducible refine Kd.C_alloc ?_ _) | (with_reducible refine Kd.C_drewN ?_ _) | (with_reducible refine Kd.C_drew ?_))); (case side2 => exact HC0.out); rintro e w9 ⟨v220, rfl, ho0, hb⟩; have n0_ := Aside0.mk (Kd.R_lower ho0 (below_size (by repeat (first | (with_reducible first | exact HB.out | apply below_alloc | apply pw_below_drewN | apply below_drew1 | refine below_set ?_ GE215.out) | exact HB.out)))); have n1_ := Aside0.mk (blk_below (g := gb215) (o := .cells #[.int .i64 a1_0, .int .i64 a1_1, .int .i64 a1_2] 25 (0, 0)) (by (with_reducible repeat (first | refine blk_drewN ?_ _ | refine blk_drew ?_ | refine blk_alloc ?_ _)); exact BK215.out) hb); have n2_ := Aside0.mk (below_step (by repeat (first | (with_reducible first | exact HB.out | apply below_alloc | apply pw_below_drewN | apply below_drew1 | refine below_set ?_ GE215.out) | exact HB.out)) hb); clear BK215; clear HB; have HO221 := n0_; have BK215 := n1_; have HB := n2_; clear n0_ n1_ n2_; (try clear hb); (try clear hb2); (try clear hk); (try clear hi); (try clear ho0))))
  (try simp only [Act.put, List.setIfInBounds_toArray, List.set_cons_zero, List.set_cons_succ])
  go_cut [28] (fun v28 wc => ∃ (kq : Nat) (x28_4 : Bool), v28 = .bool x28_4 ∧ Aside0 (frisketlaw12_NeutralNone.j0 kq l0 t219 x28_4 a1_0 a1_1 a1_2 = some r) ∧ Aside0 (kq ≤ k) ∧ Aside0 (Kd.R (Kd.int .i64) 23 wc w.heap.size (fun _ => True) v220 t219) ∧ Aside0 (wc.heap[gb215]? = some (.cells #[.int .i64 a1_0, .int .i64 a1_1, .int .i64 a1_2] 25 (0, 0))) ∧ Aside0 (Below w.heap.size w wc))
  case first =>
    have H := HC5.out
    clear HC5
    by_cases c10 : (l0.length : Int) > 150
    · rw [if_pos c10] at H
      have c10b0 : decide (150 < (l0.length : Int)) = true := decide_eq_true c10
      have c10b1 : decide (150 < l0.length) = true := decide_eq_true (by omega)
      clear c10
      (first | rw [c10b0] | (simp only [i64_w, i32_w]; rw [c10b0]) | skip)
      have H' := Aside0.mk H
      clear H
      go_wp2
      repeat (go_quiet (fail); try go_wp2)
      go_meet
      case rel => exact ⟨_, (true), (by first | rfl | (simp; done) | (simp [*]; done)), H', ⟨by first | omega | exact Nat.le_refl _⟩, ⟨by (with_reducible repeat (first | apply Kd.R_alloc | apply Kd.R_drewN | apply Kd.R_drew)); exact HO221.out⟩, ⟨by (with_reducible repeat (first | refine blk_drewN ?_ _ | refine blk_drew ?_ | refine blk_alloc ?_ _)); exact BK215.out⟩, ⟨by repeat (first | (with_reducible first | exact HB.out | apply below_alloc | apply pw_below_drewN | apply below_drew1 | refine below_set ?_ GE215.out) | exact HB.out)⟩⟩
    · rw [if_neg c10] at H
      have c10b0 : decide (150 < (l0.length : Int)) = false := decide_eq_false c10
      have c10b1 : decide (150 < l0.length) = false := decide_eq_false (by omega)
      clear c10
      (first | rw [c10b0] | (simp only [i64_w, i32_w]; rw [c10b0]) | skip)
      have H' := Aside0.mk H
      clear H
      go_wp2
      repeat (go_quiet (fail); try go_wp2)
      go_meet
      case rel => exact ⟨_, ((t222 != 0)), (by first | rfl | (simp; done) | (simp [*]; done)), H', ⟨by first | omega | exact Nat.le_refl _⟩, ⟨by (with_reducible repeat (first | apply Kd.R_alloc | apply Kd.R_drewN | apply Kd.R_drew)); exact HO221.out⟩, ⟨by (with_reducible repeat (first | refine blk_drewN ?_ _ | refine blk_drew ?_ | refine blk_alloc ?_ _)); exact BK215.out⟩, ⟨by repeat (first | (with_reducible first | exact HB.out | apply below_alloc | apply pw_below_drewN | apply below_drew1 | refine below_set ?_ GE215.out) | exact HB.out)⟩⟩
  case rest =>
    clear HC5
    try clear c1
    try clear p2
    try clear c4
    try clear c10
    try clear c10b0
    try clear c10b1
    try clear hcz7_0
    try clear hcz7_1
    try clear hcz7_2
    try clear hfz7_0
    try clear hfz7_1
    try clear hfz7_2
    obtain ⟨kq, x28_4, rfl, HA, HJ4, HO_5, BK215, HB⟩ := hcut
    cases kq with
    | zero => exact absurd HA.out (by simp [frisketlaw12_NeutralNone.j0])
    | succ kj4 =>
      have H := HA.out
      clear HA
      simp only [frisketlaw12_NeutralNone.j0] at H
      by_cases c11 : x28_4 = true
      · subst c11
        have H1 : ((frisketlaw12_alive.f kj4).bind fun t223 => (some t223)) = some r := by rw [if_pos rfl] at H; exact H
        clear H
        have H := H1
        clear H1
        replace H := Option.bind_eq_some_iff.mp H
        obtain ⟨t223, A120, H⟩ := H
        replace H : (some t223) = some r := H
        have A12 := Aside0.mk A120
        clear A120
        obtain rfl := Option.some.inj H
        go_wp2_with (first | (go_at_call 7; (with_reducible refine (frisketlaw12_alive.calls kj4  t223 _ A12.out).mono ?_); rintro e w13 ⟨rfl, hb⟩; have n0_ := Aside0.mk (Kd.R_below (by (with_reducible repeat (first | apply Kd.R_alloc | apply Kd.R_drewN | apply Kd.R_drew)); exact HO_5.out) hb); have n1_ := Aside0.mk (blk_below (g := gb215) (o := .cells #[.int .i64 a1_0, .int .i64 a1_1, .int .i64 a1_2] 25 (0, 0)) (by (with_reducible repeat (first | refine blk_drewN ?_ _ | refine blk_drew ?_ | refine blk_alloc ?_ _)); exact BK215.out) hb); have n2_ := Aside0.mk (below_step (by repeat (first | (with_reducible first | exact HB.out | apply below_alloc | apply pw_below_drewN | apply below_drew1 | refine below_set ?_ GE215.out) | exact HB.out)) hb); clear HO_5; clear BK215; clear HB; have HO_5 := n0_; have BK215 := n1_; have HB := n2_; clear n0_ n1_ n2_; (try clear hb); (try clear hb2); (try clear hk); (try clear hi)))
        repeat (go_quiet (first | (go_at_call 7; (with_reducible refine (frisketlaw12_alive.calls kj4  t223 _ A12.out).mono ?_); rintro e w13 ⟨rfl, hb⟩; have n0_ := Aside0.mk (Kd.R_below (by (with_reducible repeat (first | apply Kd.R_alloc | apply Kd.R_drewN | apply Kd.R_drew)); exact HO_5.out) hb); have n1_ := Aside0.mk (blk_below (g := gb215) (o := .cells #[.int .i64 a1_0, .int .i64 a1_1, .int .i64 a1_2] 25 (0, 0)) (by (with_reducible repeat (first | refine blk_drewN ?_ _ | refine blk_drew ?_ | refine blk_alloc ?_ _)); exact BK215.out) hb); have n2_ := Aside0.mk (below_step (by repeat (first | (with_reducible first | exact HB.out | apply below_alloc | apply pw_below_drewN | apply below_drew1 | refine below_set ?_ GE215.out) | exact HB.out)) hb); clear HO_5; clear BK215; clear HB; have HO_5 := n0_; have BK215 := n1_; have HB := n2_; clear n0_ n1_ n2_; (try clear hb); (try clear hb2); (try clear hk); (try clear hi))); try go_wp2_with (first | (go_at_call 7; (with_reducible refine (frisketlaw12_alive.calls kj4  t223 _ A12.out).mono ?_); rintro e w13 ⟨rfl, hb⟩; have n0_ := Aside0.mk (Kd.R_below (by (with_reducible repeat (first | apply Kd.R_alloc | apply Kd.R_drewN | apply Kd.R_drew)); exact HO_5.out) hb); have n1_ := Aside0.mk (blk_below (g := gb215) (o := .cells #[.int .i64 a1_0, .int .i64 a1_1, .int .i64 a1_2] 25 (0, 0)) (by (with_reducible repeat (first | refine blk_drewN ?_ _ | refine blk_drew ?_ | refine blk_alloc ?_ _)); exact BK215.out) hb); have n2_ := Aside0.mk (below_step (by repeat (first | (with_reducible first | exact HB.out | apply below_alloc | apply pw_below_drewN | apply below_drew1 | refine below_set ?_ GE215.out) | exact HB.out)) hb); clear HO_5; clear BK215; clear HB; have HO_5 := n0_; have BK215 := n1_; have HB := n2_; clear n0_ n1_ n2_; (try clear hb); (try clear hb2); (try clear hk); (try clear hi))))
        go_ret
        exact ⟨by first | rfl | (simp [errW_none, errW_some] <;> rfl) | (simp [*, errW_none, errW_some] <;> rfl), by repeat (first | (with_reducible first | exact HB.out | apply below_alloc | apply pw_below_drewN | apply below_drew1 | refine below_set ?_ GE215.out) | exact HB.out)⟩
      · replace c11 := Bool.eq_false_iff.mpr c11
        subst c11
        have H1 : ((frisketlaw12_seq.f a1_0 a1_1 a1_2).bind fun bt224 => ((neutral_Settle.f t219 bt224.1 bt224.2.1 bt224.2.2).bind fun bt227 => ((neutral_Raise.f kj4 t219 a1_0).bind fun bt231 => (if bt227.2 = 0 then (if bt231.2 = 0 then (if (t219.length : Int) = (l0.length : Int) then (if (bt231.1.length : Int) = (l0.length : Int) then ((frisketlaw08_Same.f kj4 t219 bt227.1).bind fun t235 => (frisketlaw12_NeutralNone.j1 kj4 l0 t219 bt231.1 (!t235) a1_0 a1_1 a1_2)) else (frisketlaw12_NeutralNone.j1 kj4 l0 t219 bt231.1 true a1_0 a1_1 a1_2)) else (frisketlaw12_NeutralNone.j1 kj4 l0 t219 bt231.1 true a1_0 a1_1 a1_2)) else (frisketlaw12_NeutralNone.j1 kj4 l0 t219 bt231.1 true a1_0 a1_1 a1_2)) else (frisketlaw12_NeutralNone.j1 kj4 l0 t219 bt231.1 true a1_0 a1_1 a1_2))))) = some r := by rw [if_neg (show ¬ (false = true) by decide)] at H; exact H
        clear H
        have H := H1
        clear H1
        replace H := Option.bind_eq_some_iff.mp H
        obtain ⟨⟨t224, t225, t226⟩, A140, H⟩ := H
        replace H : ((neutral_Settle.f t219 t224 t225 t226).bind fun bt227 => ((neutral_Raise.f kj4 t219 a1_0).bind fun bt231 => (if bt227.2 = 0 then (if bt231.2 = 0 then (if (t219.length : Int) = (l0.length : Int) then (if (bt231.1.length : Int) = (l0.length : Int) then ((frisketlaw08_Same.f kj4 t219 bt227.1).bind fun t235 => (frisketlaw12_NeutralNone.j1 kj4 l0 t219 bt231.1 (!t235) a1_0 a1_1 a1_2)) else (frisketlaw12_NeutralNone.j1 kj4 l0 t219 bt231.1 true a1_0 a1_1 a1_2)) else (frisketlaw12_NeutralNone.j1 kj4 l0 t219 bt231.1 true a1_0 a1_1 a1_2)) else (frisketlaw12_NeutralNone.j1 kj4 l0 t219 bt231.1 true a1_0 a1_1 a1_2)) else (frisketlaw12_NeutralNone.j1 kj4 l0 t219 bt231.1 true a1_0 a1_1 a1_2)))) = some r := H
        have A14 := Aside0.mk A140
        clear A140
        replace H := Option.bind_eq_some_iff.mp H
        obtain ⟨⟨t227, t230⟩, A150, H⟩ := H
        replace H : ((neutral_Raise.f kj4 t219 a1_0).bind fun bt231 => (if t230 = 0 then (if bt231.2 = 0 then (if (t219.length : Int) = (l0.length : Int) then (if (bt231.1.length : Int) = (l0.length : Int) then ((frisketlaw08_Same.f kj4 t219 t227).bind fun t235 => (frisketlaw12_NeutralNone.j1 kj4 l0 t219 bt231.1 (!t235) a1_0 a1_1 a1_2)) else (frisketlaw12_NeutralNone.j1 kj4 l0 t219 bt231.1 true a1_0 a1_1 a1_2)) else (frisketlaw12_NeutralNone.j1 kj4 l0 t219 bt231.1 true a1_0 a1_1 a1_2)) else (frisketlaw12_NeutralNone.j1 kj4 l0 t219 bt231.1 true a1_0 a1_1 a1_2)) else (frisketlaw12_NeutralNone.j1 kj4 l0 t219 bt231.1 true a1_0 a1_1 a1_2))) = some r := H
        have A15 := Aside0.mk A150
        clear A150
        replace H := Option.bind_eq_some_iff.mp H
        obtain ⟨⟨t231, t232⟩, A160, H⟩ := H
        replace H : (if t230 = 0 then (if t232 = 0 then (if (t219.length : Int) = (l0.length : Int) then (if (t231.length : Int) = (l0.length : Int) then ((frisketlaw08_Same.f kj4 t219 t227).bind fun t235 => (frisketlaw12_NeutralNone.j1 kj4 l0 t219 t231 (!t235) a1_0 a1_1 a1_2)) else (frisketlaw12_NeutralNone.j1 kj4 l0 t219 t231 true a1_0 a1_1 a1_2)) else (frisketlaw12_NeutralNone.j1 kj4 l0 t219 t231 true a1_0 a1_1 a1_2)) else (frisketlaw12_NeutralNone.j1 kj4 l0 t219 t231 true a1_0 a1_1 a1_2)) else (frisketlaw12_NeutralNone.j1 kj4 l0 t219 t231 true a1_0 a1_1 a1_2)) = some r := H
        have A16 := Aside0.mk A160
        clear A160
        have HC17 := Aside0.mk H
        clear H
        have hcz18_0 : wc.cell? ⟨gb215, 0, none⟩ = some (.int .i64 a1_0) := (blk_cell BK215.out 0).trans rfl
        have hcz18_1 : wc.cell? ⟨gb215, 1, none⟩ = some (.int .i64 a1_1) := (blk_cell BK215.out 1).trans rfl
        have hcz18_2 : wc.cell? ⟨gb215, 2, none⟩ = some (.int .i64 a1_2) := (blk_cell BK215.out 2).trans rfl
        have hfz18_0 := blk_frozen BK215.out 0
        have hfz18_1 := blk_frozen BK215.out 1
        have hfz18_2 := blk_frozen BK215.out 2
        go_upto_region 6 with (first | (go_at_call 9; (with_reducible refine (frisketlaw12_seq.calls a1_0 a1_1 a1_2 t224 t225 t226 _ A14.out).mono ?_); rintro e w19 ⟨rfl, hb⟩; have n0_ := Aside0.mk (Kd.R_below (by (with_reducible repeat (first | apply Kd.R_alloc | apply Kd.R_drewN | apply Kd.R_drew)); exact HO_5.out) hb); have n1_ := Aside0.mk (blk_below (g := gb215) (o := .cells #[.int .i64 a1_0, .int .i64 a1_1, .int .i64 a1_2] 25 (0, 0)) (by (with_reducible repeat (first | refine blk_drewN ?_ _ | refine blk_drew ?_ | refine blk_alloc ?_ _)); exact BK215.out) hb); have n2_ := Aside0.mk (below_step (by repeat (first | (with_reducible first | exact HB.out | apply below_alloc | apply pw_below_drewN | apply below_drew1 | refine below_set ?_ GE215.out) | exact HB.out)) hb); clear HO_5; clear BK215; clear HB; have HO_5 := n0_; have BK215 := n1_; have HB := n2_; clear n0_ n1_ n2_; (try clear hb); (try clear hb2); (try clear hk); (try clear hi); obtain ⟨Ao20, co20, eo20⟩ := Kd.R_slice HO_5.out; subst eo20) | (go_at_call 8; (with_reducible refine (neutral_Settle.calls _ _ t219 t224 t225 t226 t227 t230 _ ?side1 ?side2 A15.out).mono ?_); (case side1 => repeat (first | exact (Kd.R_reads' HO_5.out).2.2 | (with_reducible refine Kd.C_alloc ?_ _) | (with_reducible refine Kd.C_drewN ?_ _) | (with_reducible refine Kd.C_drew ?_))); (case side2 => exact (Kd.R_reads' HO_5.out).2.1); rintro e w21 ⟨v228, rfl, ho0, hb⟩; have n0_ := Aside0.mk (Kd.R_elder' (by (with_reducible repeat (first | apply Kd.R_alloc | apply Kd.R_drewN | apply Kd.R_drew)); exact HO_5.out) (Kd.R_base ho0) hb); have n1_ := Aside0.mk (Kd.R_lower (Kd.R_new' ho0 (Kd.R_lt (by (with_reducible repeat (first | apply Kd.R_alloc | apply Kd.R_drewN | apply Kd.R_drew)); exact HO_5.out))) (below_size (by repeat (first | (with_reducible first | exact HB.out | apply below_alloc | apply pw_below_drewN | apply below_drew1 | refine below_set ?_ GE215.out) | exact HB.out)))); have n2_ := Aside0.mk (blk_below (g := gb215) (o := .cells #[.int .i64 a1_0, .int .i64 a1_1, .int .i64 a1_2] 25 (0, 0)) (by (with_reducible repeat (first | refine blk_drewN ?_ _ | refine blk_drew ?_ | refine blk_alloc ?_ _)); exact BK215.out) hb); have n3_ := Aside0.mk (below_step (by repeat (first | (with_reducible first | exact HB.out | apply below_alloc | apply pw_below_drewN | apply below_drew1 | refine below_set ?_ GE215.out) | exact HB.out)) hb); clear HO_5; clear BK215; clear HB; have HO_5 := n0_; have HO229 := n1_; have BK215 := n2_; have HB := n3_; clear n0_ n1_ n2_ n3_; (try clear hb); (try clear hb2); (try clear hk); (try clear hi); (try clear ho0); have hcz22_0 : w21.cell? ⟨gb215, 0, none⟩ = some (.int .i64 a1_0) := (blk_cell BK215.out 0).trans rfl; have hcz22_1 : w21.cell? ⟨gb215, 1, none⟩ = some (.int .i64 a1_1) := (blk_cell BK215.out 1).trans rfl; have hcz22_2 : w21.cell? ⟨gb215, 2, none⟩ = some (.int .i64 a1_2) := (blk_cell BK215.out 2).trans rfl; have hfz22_0 := blk_frozen BK215.out 0; have hfz22_1 := blk_frozen BK215.out 1; have hfz22_2 := blk_frozen BK215.out 2) | (go_at_call 11; (with_reducible refine (neutral_Raise.calls kj4 _ _ t219 a1_0 t231 t232 _ ?side1 ?side2 A16.out).mono ?_); (case side1 => repeat (first | exact (Kd.R_reads' HO_5.out).2.2 | (with_reducible refine Kd.C_alloc ?_ _) | (with_reducible refine Kd.C_drewN ?_ _) | (with_reducible refine Kd.C_drew ?_))); (case side2 => exact (Kd.R_reads' HO_5.out).2.1); rintro e w23 ⟨v233, rfl, ho0, hb⟩; have n0_ := Aside0.mk (Kd.R_below (by (with_reducible repeat (first | apply Kd.R_alloc | apply Kd.R_drewN | apply Kd.R_drew)); exact HO_5.out) hb); have n1_ := Aside0.mk (Kd.R_below (by (with_reducible repeat (first | apply Kd.R_alloc | apply Kd.R_drewN | apply Kd.R_drew)); exact HO229.out) hb); have n2_ := Aside0.mk (Kd.R_lower ho0 (below_size (by repeat (first | (with_reducible first | exact HB.out | apply below_alloc | apply pw_below_drewN | apply below_drew1 | refine below_set ?_ GE215.out) | exact HB.out)))); have n3_ := Aside0.mk (blk_below (g := gb215) (o := .cells #[.int .i64 a1_0, .int .i64 a1_1, .int .i64 a1_2] 25 (0, 0)) (by (with_reducible repeat (first | refine blk_drewN ?_ _ | refine blk_drew ?_ | refine blk_alloc ?_ _)); exact BK215.out) hb); have n4_ := Aside0.mk (below_step (by repeat (first | (with_reducible first | exact HB.out | apply below_alloc | apply pw_below_drewN | apply below_drew1 | refine below_set ?_ GE215.out) | exact HB.out)) hb); clear HO_5; clear HO229; clear BK215; clear HB; have HO_5 := n0_; have HO229 := n1_; have HO234 := n2_; have BK215 := n3_; have HB := n4_; clear n0_ n1_ n2_ n3_ n4_; (try clear hb); (try clear hb2); (try clear hk); (try clear hi); (try clear ho0)))
        repeat (go_quiet (first | (go_at_call 9; (with_reducible refine (frisketlaw12_seq.calls a1_0 a1_1 a1_2 t224 t225 t226 _ A14.out).mono ?_); rintro e w19 ⟨rfl, hb⟩; have n0_ := Aside0.mk (Kd.R_below (by (with_reducible repeat (first | apply Kd.R_alloc | apply Kd.R_drewN | apply Kd.R_drew)); exact HO_5.out) hb); have n1_ := Aside0.mk (blk_below (g := gb215) (o := .cells #[.int .i64 a1_0, .int .i64 a1_1, .int .i64 a1_2] 25 (0, 0)) (by (with_reducible repeat (first | refine blk_drewN ?_ _ | refine blk_drew ?_ | refine blk_alloc ?_ _)); exact BK215.out) hb); have n2_ := Aside0.mk (below_step (by repeat (first | (with_reducible first | exact HB.out | apply below_alloc | apply pw_below_drewN | apply below_drew1 | refine below_set ?_ GE215.out) | exact HB.out)) hb); clear HO_5; clear BK215; clear HB; have HO_5 := n0_; have BK215 := n1_; have HB := n2_; clear n0_ n1_ n2_; (try clear hb); (try clear hb2); (try clear hk); (try clear hi); obtain ⟨Ao20, co20, eo20⟩ := Kd.R_slice HO_5.out; subst eo20) | (go_at_call 8; (with_reducible refine (neutral_Settle.calls _ _ t219 t224 t225 t226 t227 t230 _ ?side1 ?side2 A15.out).mono ?_); (case side1 => repeat (first | exact (Kd.R_reads' HO_5.out).2.2 | (with_reducible refine Kd.C_alloc ?_ _) | (with_reducible refine Kd.C_drewN ?_ _) | (with_reducible refine Kd.C_drew ?_))); (case side2 => exact (Kd.R_reads' HO_5.out).2.1); rintro e w21 ⟨v228, rfl, ho0, hb⟩; have n0_ := Aside0.mk (Kd.R_elder' (by (with_reducible repeat (first | apply Kd.R_alloc | apply Kd.R_drewN | apply Kd.R_drew)); exact HO_5.out) (Kd.R_base ho0) hb); have n1_ := Aside0.mk (Kd.R_lower (Kd.R_new' ho0 (Kd.R_lt (by (with_reducible repeat (first | apply Kd.R_alloc | apply Kd.R_drewN | apply Kd.R_drew)); exact HO_5.out))) (below_size (by repeat (first | (with_reducible first | exact HB.out | apply below_alloc | apply pw_below_drewN | apply below_drew1 | refine below_set ?_ GE215.out) | exact HB.out)))); have n2_ := Aside0.mk (blk_below (g := gb215) (o := .cells #[.int .i64 a1_0, .int .i64 a1_1, .int .i64 a1_2] 25 (0, 0)) (by (with_reducible repeat (first | refine blk_drewN ?_ _ | refine blk_drew ?_ | refine blk_alloc ?_ _)); exact BK215.out) hb); have n3_ := Aside0.mk (below_step (by repeat (first | (with_reducible first | exact HB.out | apply below_alloc | apply pw_below_drewN | apply below_drew1 | refine below_set ?_ GE215.out) | exact HB.out)) hb); clear HO_5; clear BK215; clear HB; have HO_5 := n0_; have HO229 := n1_; have BK215 := n2_; have HB := n3_; clear n0_ n1_ n2_ n3_; (try clear hb); (try clear hb2); (try clear hk); (try clear hi); (try clear ho0); have hcz22_0 : w21.cell? ⟨gb215, 0, none⟩ = some (.int .i64 a1_0) := (blk_cell BK215.out 0).trans rfl; have hcz22_1 : w21.cell? ⟨gb215, 1, none⟩ = some (.int .i64 a1_1) := (blk_cell BK215.out 1).trans rfl; have hcz22_2 : w21.cell? ⟨gb215, 2, none⟩ = some (.int .i64 a1_2) := (blk_cell BK215.out 2).trans rfl; have hfz22_0 := blk_frozen BK215.out 0; have hfz22_1 := blk_frozen BK215.out 1; have hfz22_2 := blk_frozen BK215.out 2) | (go_at_call 11; (with_reducible refine (neutral_Raise.calls kj4 _ _ t219 a1_0 t231 t232 _ ?side1 ?side2 A16.out).mono ?_); (case side1 => repeat (first | exact (Kd.R_reads' HO_5.out).2.2 | (with_reducible refine Kd.C_alloc ?_ _) | (with_reducible refine Kd.C_drewN ?_ _) | (with_reducible refine Kd.C_drew ?_))); (case side2 => exact (Kd.R_reads' HO_5.out).2.1); rintro e w23 ⟨v233, rfl, ho0, hb⟩; have n0_ := Aside0.mk (Kd.R_below (by (with_reducible repeat (first | apply Kd.R_alloc | apply Kd.R_drewN | apply Kd.R_drew)); exact HO_5.out) hb); have n1_ := Aside0.mk (Kd.R_below (by (with_reducible repeat (first | apply Kd.R_alloc | apply Kd.R_drewN | apply Kd.R_drew)); exact HO229.out) hb); have n2_ := Aside0.mk (Kd.R_lower ho0 (below_size (by repeat (first | (with_reducible first | exact HB.out | apply below_alloc | apply pw_below_drewN | apply below_drew1 | refine below_set ?_ GE215.out) | exact HB.out)))); have n3_ := Aside0.mk (blk_below (g := gb215) (o := .cells #[.int .i64 a1_0, .int .i64 a1_1, .int .i64 a1_2] 25 (0, 0)) (by (with_reducible repeat (first | refine blk_drewN ?_ _ | refine blk_drew ?_ | refine blk_alloc ?_ _)); exact BK215.out) hb); have n4_ := Aside0.mk (below_step (by repeat (first | (with_reducible first | exact HB.out | apply below_alloc | apply pw_below_drewN | apply below_drew1 | refine below_set ?_ GE215.out) | exact HB.out)) hb); clear HO_5; clear HO229; clear BK215; clear HB; have HO_5 := n0_; have HO229 := n1_; have HO234 := n2_; have BK215 := n3_; have HB := n4_; clear n0_ n1_ n2_ n3_ n4_; (try clear hb); (try clear hb2); (try clear hk); (try clear hi); (try clear ho0))); go_upto_region 6 with (first | (go_at_call 9; (with_reducible refine (frisketlaw12_seq.calls a1_0 a1_1 a1_2 t224 t225 t226 _ A14.out).mono ?_); rintro e w19 ⟨rfl, hb⟩; have n0_ := Aside0.mk (Kd.R_below (by (with_reducible repeat (first | apply Kd.R_alloc | apply Kd.R_drewN | apply Kd.R_drew)); exact HO_5.out) hb); have n1_ := Aside0.mk (blk_below (g := gb215) (o := .cells #[.int .i64 a1_0, .int .i64 a1_1, .int .i64 a1_2] 25 (0, 0)) (by (with_reducible repeat (first | refine blk_drewN ?_ _ | refine blk_drew ?_ | refine blk_alloc ?_ _)); exact BK215.out) hb); have n2_ := Aside0.mk (below_step (by repeat (first | (with_reducible first | exact HB.out | apply below_alloc | apply pw_below_drewN | apply below_drew1 | refine below_set ?_ GE215.out) | exact HB.out)) hb); clear HO_5; clear BK215; clear HB; have HO_5 := n0_; have BK215 := n1_; have HB := n2_; clear n0_ n1_ n2_; (try clear hb); (try clear hb2); (try clear hk); (try clear hi); obtain ⟨Ao20, co20, eo20⟩ := Kd.R_slice HO_5.out; subst eo20) | (go_at_call 8; (with_reducible refine (neutral_Settle.calls _ _ t219 t224 t225 t226 t227 t230 _ ?side1 ?side2 A15.out).mono ?_); (case side1 => repeat (first | exact (Kd.R_reads' HO_5.out).2.2 | (with_reducible refine Kd.C_alloc ?_ _) | (with_reducible refine Kd.C_drewN ?_ _) | (with_reducible refine Kd.C_drew ?_))); (case side2 => exact (Kd.R_reads' HO_5.out).2.1); rintro e w21 ⟨v228, rfl, ho0, hb⟩; have n0_ := Aside0.mk (Kd.R_elder' (by (with_reducible repeat (first | apply Kd.R_alloc | apply Kd.R_drewN | apply Kd.R_drew)); exact HO_5.out) (Kd.R_base ho0) hb); have n1_ := Aside0.mk (Kd.R_lower (Kd.R_new' ho0 (Kd.R_lt (by (with_reducible repeat (first | apply Kd.R_alloc | apply Kd.R_drewN | apply Kd.R_drew)); exact HO_5.out))) (below_size (by repeat (first | (with_reducible first | exact HB.out | apply below_alloc | apply pw_below_drewN | apply below_drew1 | refine below_set ?_ GE215.out) | exact HB.out)))); have n2_ := Aside0.mk (blk_below (g := gb215) (o := .cells #[.int .i64 a1_0, .int .i64 a1_1, .int .i64 a1_2] 25 (0, 0)) (by (with_reducible repeat (first | refine blk_drewN ?_ _ | refine blk_drew ?_ | refine blk_alloc ?_ _)); exact BK215.out) hb); have n3_ := Aside0.mk (below_step (by repeat (first | (with_reducible first | exact HB.out | apply below_alloc | apply pw_below_drewN | apply below_drew1 | refine below_set ?_ GE215.out) | exact HB.out)) hb); clear HO_5; clear BK215; clear HB; have HO_5 := n0_; have HO229 := n1_; have BK215 := n2_; have HB := n3_; clear n0_ n1_ n2_ n3_; (try clear hb); (try clear hb2); (try clear hk); (try clear hi); (try clear ho0); have hcz22_0 : w21.cell? ⟨gb215, 0, none⟩ = some (.int .i64 a1_0) := (blk_cell BK215.out 0).trans rfl; have hcz22_1 : w21.cell? ⟨gb215, 1, none⟩ = some (.int .i64 a1_1) := (blk_cell BK215.out 1).trans rfl; have hcz22_2 : w21.cell? ⟨gb215, 2, none⟩ = some (.int .i64 a1_2) := (blk_cell BK215.out 2).trans rfl; have hfz22_0 := blk_frozen BK215.out 0; have hfz22_1 := blk_frozen BK215.out 1; have hfz22_2 := blk_frozen BK215.out 2) | (go_at_call 11; (with_reducible refine (neutral_Raise.calls kj4 _ _ t219 a1_0 t231 t232 _ ?side1 ?side2 A16.out).mono ?_); (case side1 => repeat (first | exact (Kd.R_reads' HO_5.out).2.2 | (with_reducible refine Kd.C_alloc ?_ _) | (with_reducible refine Kd.C_drewN ?_ _) | (with_reducible refine Kd.C_drew ?_))); (case side2 => exact (Kd.R_reads' HO_5.out).2.1); rintro e w23 ⟨v233, rfl, ho0, hb⟩; have n0_ := Aside0.mk (Kd.R_below (by (with_reducible repeat (first | apply Kd.R_alloc | apply Kd.R_drewN | apply Kd.R_drew)); exact HO_5.out) hb); have n1_ := Aside0.mk (Kd.R_below (by (with_reducible repeat (first | apply Kd.R_alloc | apply Kd.R_drewN | apply Kd.R_drew)); exact HO229.out) hb); have n2_ := Aside0.mk (Kd.R_lower ho0 (below_size (by repeat (first | (with_reducible first | exact HB.out | apply below_alloc | apply pw_below_drewN | apply below_drew1 | refine below_set ?_ GE215.out) | exact HB.out)))); have n3_ := Aside0.mk (blk_below (g := gb215) (o := .cells #[.int .i64 a1_0, .int .i64 a1_1, .int .i64 a1_2] 25 (0, 0)) (by (with_reducible repeat (first | refine blk_drewN ?_ _ | refine blk_drew ?_ | refine blk_alloc ?_ _)); exact BK215.out) hb); have n4_ := Aside0.mk (below_step (by repeat (first | (with_reducible first | exact HB.out | apply below_alloc | apply pw_below_drewN | apply below_drew1 | refine below_set ?_ GE215.out) | exact HB.out)) hb); clear HO_5; clear HO229; clear BK215; clear HB; have HO_5 := n0_; have HO229 := n1_; have HO234 := n2_; have BK215 := n3_; have HB := n4_; clear n0_ n1_ n2_ n3_ n4_; (try clear hb); (try clear hb2); (try clear hk); (try clear hi); (try clear ho0))))
        (try simp only [Act.put, List.setIfInBounds_toArray, List.set_cons_zero, List.set_cons_succ])
        go_cut [69] (fun v69 wc => ∃ (kq : Nat) (x69_16 : Bool), v69 = .bool x69_16 ∧ Aside0 (frisketlaw12_NeutralNone.j1 kq l0 t219 t231 x69_16 a1_0 a1_1 a1_2 = some r) ∧ Aside0 (kq ≤ kj4) ∧ Aside0 (Kd.R (Kd.int .i64) 23 wc w.heap.size (fun _ => True) (.slice Ao20 t219.length co20) t219) ∧ Aside0 (Kd.R (Kd.int .i64) 3 wc w.heap.size (fun _ => True) v233 t231) ∧ Aside0 (wc.heap[gb215]? = some (.cells #[.int .i64 a1_0, .int .i64 a1_1, .int .i64 a1_2] 25 (0, 0))) ∧ Aside0 (Below w.heap.size w wc))
        case first =>
          have H := HC17.out
          clear HC17
          by_cases c24 : t230 = 0
          · rw [if_pos c24] at H
            have c24b0 : (t230 == 0) = true := beq_iff_eq.mpr c24
            have c24b1 : (t230 != 0) = false := bne_eq_false_iff_eq.mpr c24
            clear c24
            (first | rw [c24b0] | (simp only [i64_w, i32_w]; rw [c24b0]) | skip)
            by_cases c25 : t232 = 0
            · rw [if_pos c25] at H
              have c25b0 : (t232 == 0) = true := beq_iff_eq.mpr c25
              have c25b1 : (t232 != 0) = false := bne_eq_false_iff_eq.mpr c25
              clear c25
              by_cases c26 : (t219.length : Int) = (l0.length : Int)
              · rw [if_pos c26] at H
                have c26b0 : ((t219.length : Int) == (l0.length : Int)) = true := beq_iff_eq.mpr c26
                have c26b1 : ((t219.length : Int) != (l0.length : Int)) = false := bne_eq_false_iff_eq.mpr c26
                have c26b2 : (t219.length == l0.length) = true := by first | simpa using c26 | (simp at c26 ⊢; omega)
                clear c26
                by_cases c27 : (t231.length : Int) = (l0.length : Int)
                · rw [if_pos c27] at H
                  have c27b0 : ((t231.length : Int) == (l0.length : Int)) = true := beq_iff_eq.mpr c27
                  have c27b1 : ((t231.length : Int) != (l0.length : Int)) = false := bne_eq_false_iff_eq.mpr c27
                  have c27b2 : (t231.length == l0.length) = true := by first | simpa using c27 | (simp at c27 ⊢; omega)
                  clear c27
                  replace H := Option.bind_eq_some_iff.mp H
                  obtain ⟨t235, A280, H⟩ := H
                  replace H : (frisketlaw12_NeutralNone.j1 kj4 l0 t219 t231 (!t235) a1_0 a1_1 a1_2) = some r := H
                  have A28 := Aside0.mk A280
                  clear A280
                  have H' := Aside0.mk H
                  clear H
                  obtain ⟨Ao29, co29, eo29⟩ := Kd.R_slice HO234.out
                  subst eo29
                  obtain ⟨Ao30, co30, eo30⟩ := Kd.R_slice HO229.out
                  subst eo30
                  go_wp2_with (first | (go_at_call 13; (with_reducible refine (frisketlaw08_Same.calls kj4 _ _ t219 _ _ t227 t235 _ ?side1 ?side2 ?side3 ?side4 A28.out).mono ?_); (case side1 => repeat (first | exact (Kd.R_reads' HO_5.out).2.2 | (with_reducible refine Kd.C_alloc ?_ _) | (with_reducible refine Kd.C_drewN ?_ _) | (with_reducible refine Kd.C_drew ?_))); (case side2 => exact (Kd.R_reads' HO_5.out).2.1); (case side3 => repeat (first | exact (Kd.R_reads' HO229.out).2.2 | (with_reducible refine Kd.C_alloc ?_ _) | (with_reducible refine Kd.C_drewN ?_ _) | (with_reducible refine Kd.C_drew ?_))); (case side4 => exact (Kd.R_reads' HO229.out).2.1); rintro e w' ⟨rfl, ⟨nd, rfl⟩⟩; (try first | exact ⟨rfl, _, World.drewN_drewN _ _ _⟩ | exact ⟨rfl, _, Eq.trans (World.drewN_drewN _ _ _) (congrArg (World.drewN _) (Nat.add_assoc _ _ _))⟩)))
                  repeat (go_quiet (first | (go_at_call 13; (with_reducible refine (frisketlaw08_Same.calls kj4 _ _ t219 _ _ t227 t235 _ ?side1 ?side2 ?side3 ?side4 A28.out).mono ?_); (case side1 => repeat (first | exact (Kd.R_reads' HO_5.out).2.2 | (with_reducible refine Kd.C_alloc ?_ _) | (with_reducible refine Kd.C_drewN ?_ _) | (with_reducible refine Kd.C_drew ?_))); (case side2 => exact (Kd.R_reads' HO_5.out).2.1); (case side3 => repeat (first | exact (Kd.R_reads' HO229.out).2.2 | (with_reducible refine Kd.C_alloc ?_ _) | (with_reducible refine Kd.C_drewN ?_ _) | (with_reducible refine Kd.C_drew ?_))); (case side4 => exact (Kd.R_reads' HO229.out).2.1); rintro e w' ⟨rfl, ⟨nd, rfl⟩⟩; (try first | exact ⟨rfl, _, World.drewN_drewN _ _ _⟩ | exact ⟨rfl, _, Eq.trans (World.drewN_drewN _ _ _) (congrArg (World.drewN _) (Nat.add_assoc _ _ _))⟩))); try go_wp2_with (first | (go_at_call 13; (with_reducible refine (frisketlaw08_Same.calls kj4 _ _ t219 _ _ t227 t235 _ ?side1 ?side2 ?side3 ?side4 A28.out).mono ?_); (case side1 => repeat (first | exact (Kd.R_reads' HO_5.out).2.2 | (with_reducible refine Kd.C_alloc ?_ _) | (with_reducible refine Kd.C_drewN ?_ _) | (with_reducible refine Kd.C_drew ?_))); (case side2 => exact (Kd.R_reads' HO_5.out).2.1); (case side3 => repeat (first | exact (Kd.R_reads' HO229.out).2.2 | (with_reducible refine Kd.C_alloc ?_ _) | (with_reducible refine Kd.C_drewN ?_ _) | (with_reducible refine Kd.C_drew ?_))); (case side4 => exact (Kd.R_reads' HO229.out).2.1); rintro e w' ⟨rfl, ⟨nd, rfl⟩⟩; (try first | exact ⟨rfl, _, World.drewN_drewN _ _ _⟩ | exact ⟨rfl, _, Eq.trans (World.drewN_drewN _ _ _) (congrArg (World.drewN _) (Nat.add_assoc _ _ _))⟩))))
                  go_meet
                  case rel => exact ⟨_, (!t235), (by first | rfl | (simp; done) | (simp [*]; done)), H', ⟨by have := HJ4.out; first | omega | exact Nat.le_refl _⟩, ⟨by (with_reducible repeat (first | apply Kd.R_alloc | apply Kd.R_drewN | apply Kd.R_drew)); exact Kd.R_mono HO_5.out (fun _ hk => trivial)⟩, ⟨by (with_reducible repeat (first | apply Kd.R_alloc | apply Kd.R_drewN | apply Kd.R_drew)); exact HO234.out⟩, ⟨by (with_reducible repeat (first | refine blk_drewN ?_ _ | refine blk_drew ?_ | refine blk_alloc ?_ _)); exact BK215.out⟩, ⟨by repeat (first | (with_reducible first | exact HB.out | apply below_alloc | apply pw_below_drewN | apply below_drew1 | refine below_set ?_ GE215.out) | exact HB.out)⟩⟩
                · rw [if_neg c27] at H
                  have c27b0 : ((t231.length : Int) == (l0.length : Int)) = false := beq_eq_false_iff_ne.mpr c27
                  have c27b1 : ((t231.length : Int) != (l0.length : Int)) = true := bne_iff_ne.mpr c27
                  have c27b2 : (t231.length == l0.length) = false := by first | simpa using c27 | (simp at c27 ⊢; omega)
                  have H' := Aside0.mk H
                  clear H
                  obtain ⟨Ao31, co31, eo31⟩ := Kd.R_slice HO234.out
                  subst eo31
                  go_wp2
                  repeat (go_quiet (fail); try go_wp2)
                  go_meet
                  case rel => exact ⟨_, (true), (by first | rfl | (simp; done) | (simp [*]; done)), H', ⟨by have := HJ4.out; first | omega | exact Nat.le_refl _⟩, ⟨by (with_reducible repeat (first | apply Kd.R_alloc | apply Kd.R_drewN | apply Kd.R_drew)); exact Kd.R_mono HO_5.out (fun _ hk => trivial)⟩, ⟨by (with_reducible repeat (first | apply Kd.R_alloc | apply Kd.R_drewN | apply Kd.R_drew)); exact HO234.out⟩, ⟨by (with_reducible repeat (first | refine blk_drewN ?_ _ | refine blk_drew ?_ | refine blk_alloc ?_ _)); exact BK215.out⟩, ⟨by repeat (first | (with_reducible first | exact HB.out | apply below_alloc | apply pw_below_drewN | apply below_drew1 | refine below_set ?_ GE215.out) | exact HB.out)⟩⟩
              · rw [if_neg c26] at H
                have c26b0 : ((t219.length : Int) == (l0.length : Int)) = false := beq_eq_false_iff_ne.mpr c26
                have c26b1 : ((t219.length : Int) != (l0.length : Int)) = true := bne_iff_ne.mpr c26
                have c26b2 : (t219.length == l0.length) = false := by first | simpa using c26 | (simp at c26 ⊢; omega)
                have H' := Aside0.mk H
                clear H
                go_wp2
                repeat (go_quiet (fail); try go_wp2)
                go_meet
                case rel => exact ⟨_, (true), (by first | rfl | (simp; done) | (simp [*]; done)), H', ⟨by have := HJ4.out; first | omega | exact Nat.le_refl _⟩, ⟨by (with_reducible repeat (first | apply Kd.R_alloc | apply Kd.R_drewN | apply Kd.R_drew)); exact Kd.R_mono HO_5.out (fun _ hk => trivial)⟩, ⟨by (with_reducible repeat (first | apply Kd.R_alloc | apply Kd.R_drewN | apply Kd.R_drew)); exact HO234.out⟩, ⟨by (with_reducible repeat (first | refine blk_drewN ?_ _ | refine blk_drew ?_ | refine blk_alloc ?_ _)); exact BK215.out⟩, ⟨by repeat (first | (with_reducible first | exact HB.out | apply below_alloc | apply pw_below_drewN | apply below_drew1 | refine below_set ?_ GE215.out) | exact HB.out)⟩⟩
            · rw [if_neg c25] at H
              have c25b0 : (t232 == 0) = false := beq_eq_false_iff_ne.mpr c25
              have c25b1 : (t232 != 0) = true := bne_iff_ne.mpr c25
              have H' := Aside0.mk H
              clear H
              go_wp2
              repeat (go_quiet (fail); try go_wp2)
              go_meet
              case rel => exact ⟨_, (true), (by first | rfl | (simp; done) | (simp [*]; done)), H', ⟨by have := HJ4.out; first | omega | exact Nat.le_refl _⟩, ⟨by (with_reducible repeat (first | apply Kd.R_alloc | apply Kd.R_drewN | apply Kd.R_drew)); exact Kd.R_mono HO_5.out (fun _ hk => trivial)⟩, ⟨by (with_reducible repeat (first | apply Kd.R_alloc | apply Kd.R_drewN | apply Kd.R_drew)); exact HO234.out⟩, ⟨by (with_reducible repeat (first | refine blk_drewN ?_ _ | refine blk_drew ?_ | refine blk_alloc ?_ _)); exact BK215.out⟩, ⟨by repeat (first | (with_reducible first | exact HB.out | apply below_alloc | apply pw_below_drewN | apply below_drew1 | refine below_set ?_ GE215.out) | exact HB.out)⟩⟩
          · rw [if_neg c24] at H
            have c24b0 : (t230 == 0) = false := beq_eq_false_iff_ne.mpr c24
            have c24b1 : (t230 != 0) = true := bne_iff_ne.mpr c24
            (first | rw [c24b0] | (simp only [i64_w, i32_w]; rw [c24b0]) | skip)
            have H' := Aside0.mk H
            clear H
            go_wp2
            repeat (go_quiet (fail); try go_wp2)
            go_meet
            case rel => exact ⟨_, (true), (by first | rfl | (simp; done) | (simp [*]; done)), H', ⟨by have := HJ4.out; first | omega | exact Nat.le_refl _⟩, ⟨by (with_reducible repeat (first | apply Kd.R_alloc | apply Kd.R_drewN | apply Kd.R_drew)); exact Kd.R_mono HO_5.out (fun _ hk => trivial)⟩, ⟨by (with_reducible repeat (first | apply Kd.R_alloc | apply Kd.R_drewN | apply Kd.R_drew)); exact HO234.out⟩, ⟨by (with_reducible repeat (first | refine blk_drewN ?_ _ | refine blk_drew ?_ | refine blk_alloc ?_ _)); exact BK215.out⟩, ⟨by repeat (first | (with_reducible first | exact HB.out | apply below_alloc | apply pw_below_drewN | apply below_drew1 | refine below_set ?_ GE215.out) | exact HB.out)⟩⟩
        case rest =>
          clear HC17
          try clear c1
          try clear c2
          try clear p2
          try clear c4
          try clear c10
          try clear c10b0
          try clear c10b1
          try clear c11
          try clear c24
          try clear c24b0
          try clear c24b1
          try clear c25
          try clear c25b0
          try clear c25b1
          try clear c26
          try clear c26b0
          try clear c26b1
          try clear c26b2
          try clear c27
          try clear c27b0
          try clear c27b1
          try clear c27b2
          try clear hcz18_0
          try clear hcz18_1
          try clear hcz18_2
          try clear hcz22_0
          try clear hcz22_1
          try clear hcz22_2
          try clear hcz7_0
          try clear hcz7_1
          try clear hcz7_2
          try clear hfz18_0
          try clear hfz18_1
          try clear hfz18_2
          try clear hfz22_0
          try clear hfz22_1
          try clear hfz22_2
          try clear hfz7_0
          try clear hfz7_1
          try clear hfz7_2
          try clear p2
          obtain ⟨kq, x69_16, rfl, HA, HJ16, HO_5, HO_9, BK215, HB⟩ := hcut
          cases kq with
          | zero => exact absurd HA.out (by simp [frisketlaw12_NeutralNone.j1])
          | succ kj16 =>
            have H := HA.out
            clear HA
            simp only [frisketlaw12_NeutralNone.j1] at H
            by_cases c32 : x69_16 = true
            · subst c32
              have H1 : (some false) = some r := by rw [if_pos rfl] at H; exact H
              clear H
              have H := H1
              clear H1
              exact af_absurd HRT.out H (by repeat (first | exact AF.none | exact AF.false | refine AF.ite ?_ ?_ | refine AF.bind (fun _ => ?_)))
            · replace c32 := Bool.eq_false_iff.mpr c32
              subst c32
              have H1 : (frisketlaw12_NeutralNone.l0 kj16 l0 t219 t231 0 a1_0 a1_1 a1_2) = some r := by rw [if_neg (show ¬ (false = true) by decide)] at H; exact H
              clear H
              have H := H1
              clear H1
              have H' := Aside0.mk H
              clear H
              go_wp2
              repeat (go_quiet (fail); try go_wp2)
              go_loopg [11] kj16 (fun kq v11 w' => ∃ (x11_3 : Int), v11 = .int .i64 x11_3 ∧ Aside0 (frisketlaw12_NeutralNone.l0 kq l0 t219 t231 x11_3 a1_0 a1_1 a1_2 = some r) ∧ Aside0 (kq ≤ kj16) ∧ Aside0 (Kd.R (Kd.int .i64) 23 w' w.heap.size (fun _ => True) (.slice Ao20 t219.length co20) t219) ∧ Aside0 (Kd.R (Kd.int .i64) 3 w' w.heap.size (fun _ => True) v233 t231) ∧ Aside0 (w'.heap[gb215]? = some (.cells #[.int .i64 a1_0, .int .i64 a1_1, .int .i64 a1_2] 25 (0, 0))) ∧ Aside0 (Below w.heap.size w w'))
              case atStart => exact ⟨(0), (by first | rfl | (simp; done) | (simp [*]; done)), H', ⟨Nat.le_refl _⟩, ⟨by (with_reducible repeat (first | apply Kd.R_alloc | apply Kd.R_drewN | apply Kd.R_drew)); exact HO_5.out⟩, ⟨by (with_reducible repeat (first | apply Kd.R_alloc | apply Kd.R_drewN | apply Kd.R_drew)); exact HO_9.out⟩, ⟨by (with_reducible repeat (first | refine blk_drewN ?_ _ | refine blk_drew ?_ | refine blk_alloc ?_ _)); exact BK215.out⟩, ⟨by repeat (first | (with_reducible first | exact HB.out | apply below_alloc | apply pw_below_drewN | apply below_drew1 | refine below_set ?_ GE215.out) | exact HB.out)⟩⟩
              case round =>
                clear H'
                try clear c1
                try clear c2
                try clear p2
                try clear c3
                try clear c4
                try clear c10
                try clear c10b0
                try clear c10b1
                try clear c11
                try clear c24
                try clear c24b0
                try clear c24b1
                try clear c25
                try clear c25b0
                try clear c25b1
                try clear c26
                try clear c26b0
                try clear c26b1
                try clear c26b2
                try clear c27
                try clear c27b0
                try clear c27b1
                try clear c27b2
                try clear c32
                try clear hcz18_0
                try clear hcz18_1
                try clear hcz18_2
                try clear hcz22_0
                try clear hcz22_1
                try clear hcz22_2
                try clear hcz7_0
                try clear hcz7_1
                try clear hcz7_2
                try clear hfz18_0
                try clear hfz18_1
                try clear hfz18_2
                try clear hfz22_0
                try clear hfz22_1
                try clear hfz22_2
                try clear hfz7_0
                try clear hfz7_1
                try clear hfz7_2
                try clear p2
                obtain ⟨x11_3, rfl, HA, HK3, HO_5, HO_9, BK215, HB⟩ := hrel
                cases gk with
                | zero => exact absurd HA.out (by simp [frisketlaw12_NeutralNone.l0])
                | succ k3 =>
                  have H := HA.out
                  clear HA
                  simp only [frisketlaw12_NeutralNone.l0] at H
                  by_cases c33 : x11_3 < (l0.length : Int)
                  · rw [if_pos c33] at H
                    have c33b0 : decide (x11_3 < (l0.length : Int)) = true := decide_eq_true c33
                    clear c33
                    by_cases c34 : 0 ≤ x11_3
                    · rw [if_pos c34] at H
                      have c34b0 : decide (0 ≤ x11_3) = true := decide_eq_true c34
                      clear c34
                      replace H := Option.bind_eq_some_iff.mp H
                      obtain ⟨t238, A350, H⟩ := H
                      replace H : (if x11_3 < (t219.length : Int) then ((frisketref12_Neutral.f (rd t219 x11_3)).bind fun t240 => (if t240 = true then (frisketlaw12_NeutralNone.j3 k3 l0 t219 t231 x11_3 true a1_0 a1_1 a1_2) else (if t238 = true then (if (rd t219 x11_3) = 0 then (if x11_3 < (t231.length : Int) then (if (rd t231 x11_3) < a1_0 then (frisketlaw12_NeutralNone.j3 k3 l0 t219 t231 x11_3 true a1_0 a1_1 a1_2) else (frisketlaw12_NeutralNone.j3 k3 l0 t219 t231 x11_3 (decide ((rd t231 x11_3) > (wrap64 (a1_0 + 2)))) a1_0 a1_1 a1_2)) else (none)) else (if (rd t219 x11_3) = 1 then (if x11_3 < (t231.length : Int) then (if (rd t231 x11_3) < a1_0 then (frisketlaw12_NeutralNone.j3 k3 l0 t219 t231 x11_3 true a1_0 a1_1 a1_2) else (frisketlaw12_NeutralNone.j3 k3 l0 t219 t231 x11_3 (decide ((rd t231 x11_3) > (wrap64 (a1_0 + 2)))) a1_0 a1_1 a1_2)) else (none)) else (frisketlaw12_NeutralNone.j3 k3 l0 t219 t231 x11_3 true a1_0 a1_1 a1_2))) else (if (rd t219 x11_3) = (rd l0 x11_3) then (if x11_3 < (t231.length : Int) then (if (rd t231 x11_3) < a1_0 then (frisketlaw12_NeutralNone.j3 k3 l0 t219 t231 x11_3 true a1_0 a1_1 a1_2) else (frisketlaw12_NeutralNone.j3 k3 l0 t219 t231 x11_3 (decide ((rd t231 x11_3) > (wrap64 (a1_0 + 2)))) a1_0 a1_1 a1_2)) else (none)) else (frisketlaw12_NeutralNone.j3 k3 l0 t219 t231 x11_3 true a1_0 a1_1 a1_2))))) else (none)) = some r := H
                      have A35 := Aside0.mk A350
                      clear A350
                      by_cases c36 : x11_3 < (t219.length : Int)
                      · rw [if_pos c36] at H
                        have c36b0 : decide (x11_3 < (t219.length : Int)) = true := decide_eq_true c36
                        clear c36
                        replace H := Option.bind_eq_some_iff.mp H
                        obtain ⟨t240, A370, H⟩ := H
                        replace H : (if t240 = true then (frisketlaw12_NeutralNone.j3 k3 l0 t219 t231 x11_3 true a1_0 a1_1 a1_2) else (if t238 = true then (if (rd t219 x11_3) = 0 then (if x11_3 < (t231.length : Int) then (if (rd t231 x11_3) < a1_0 then (frisketlaw12_NeutralNone.j3 k3 l0 t219 t231 x11_3 true a1_0 a1_1 a1_2) else (frisketlaw12_NeutralNone.j3 k3 l0 t219 t231 x11_3 (decide ((rd t231 x11_3) > (wrap64 (a1_0 + 2)))) a1_0 a1_1 a1_2)) else (none)) else (if (rd t219 x11_3) = 1 then (if x11_3 < (t231.length : Int) then (if (rd t231 x11_3) < a1_0 then (frisketlaw12_NeutralNone.j3 k3 l0 t219 t231 x11_3 true a1_0 a1_1 a1_2) else (frisketlaw12_NeutralNone.j3 k3 l0 t219 t231 x11_3 (decide ((rd t231 x11_3) > (wrap64 (a1_0 + 2)))) a1_0 a1_1 a1_2)) else (none)) else (frisketlaw12_NeutralNone.j3 k3 l0 t219 t231 x11_3 true a1_0 a1_1 a1_2))) else (if (rd t219 x11_3) = (rd l0 x11_3) then (if x11_3 < (t231.length : Int) then (if (rd t231 x11_3) < a1_0 then (frisketlaw12_NeutralNone.j3 k3 l0 t219 t231 x11_3 true a1_0 a1_1 a1_2) else (frisketlaw12_NeutralNone.j3 k3 l0 t219 t231 x11_3 (decide ((rd t231 x11_3) > (wrap64 (a1_0 + 2)))) a1_0 a1_1 a1_2)) else (none)) else (frisketlaw12_NeutralNone.j3 k3 l0 t219 t231 x11_3 true a1_0 a1_1 a1_2)))) = some r := H
                        have A37 := Aside0.mk A370
                        clear A370
                        have HC38 := Aside0.mk H
                        clear H
                        have p237 : 0 ≤ (x11_3 : Int) := of_decide_eq_true (by first | (with_reducible assumption) | assumption)
                        have q237 : x11_3 < (l0.length : Int) := of_decide_eq_true (by first | (with_reducible assumption) | assumption)
                        obtain ⟨ad237, e237, hx237_0⟩ := Kd.at_int HR0.out x11_3 p237 q237
                        cases e237
                        replace hx237_0 := (HB.out.cell (World.block_lt_of_cell? w _ hx237_0)).trans hx237_0
                        replace p237 := eq_true p237
                        replace q237 := eq_true q237
                        go_upto_region 13 with (first | (go_at_call 15; (with_reducible refine (frisketref12_Neutral.calls (rd l0 x11_3) t238 _ A35.out).mono ?_); rintro e w' ⟨rfl, ⟨nd, rfl⟩⟩; (try first | exact ⟨rfl, _, World.drewN_drewN _ _ _⟩ | exact ⟨rfl, _, Eq.trans (World.drewN_drewN _ _ _) (congrArg (World.drewN _) (Nat.add_assoc _ _ _))⟩); have p239 : 0 ≤ (x11_3 : Int) := of_decide_eq_true (by first | (with_reducible assumption) | assumption); have q239 : x11_3 < (t219.length : Int) := of_decide_eq_true (by first | (with_reducible assumption) | assumption); obtain ⟨ad239, e239, hx239_0⟩ := Kd.at_int (Kd.R_reads' HO_5.out).2.2 x11_3 p239 q239; cases e239; replace p239 := eq_true p239; replace q239 := eq_true q239) | (go_at_call 15; (with_reducible refine (frisketref12_Neutral.calls (rd t219 x11_3) t240 _ A37.out).mono ?_); rintro e w' ⟨rfl, ⟨nd, rfl⟩⟩; (try first | exact ⟨rfl, _, World.drewN_drewN _ _ _⟩ | exact ⟨rfl, _, Eq.trans (World.drewN_drewN _ _ _) (congrArg (World.drewN _) (Nat.add_assoc _ _ _))⟩)))
                        repeat (go_quiet (first | (go_at_call 15; (with_reducible refine (frisketref12_Neutral.calls (rd l0 x11_3) t238 _ A35.out).mono ?_); rintro e w' ⟨rfl, ⟨nd, rfl⟩⟩; (try first | exact ⟨rfl, _, World.drewN_drewN _ _ _⟩ | exact ⟨rfl, _, Eq.trans (World.drewN_drewN _ _ _) (congrArg (World.drewN _) (Nat.add_assoc _ _ _))⟩); have p239 : 0 ≤ (x11_3 : Int) := of_decide_eq_true (by first | (with_reducible assumption) | assumption); have q239 : x11_3 < (t219.length : Int) := of_decide_eq_true (by first | (with_reducible assumption) | assumption); obtain ⟨ad239, e239, hx239_0⟩ := Kd.at_int (Kd.R_reads' HO_5.out).2.2 x11_3 p239 q239; cases e239; replace p239 := eq_true p239; replace q239 := eq_true q239) | (go_at_call 15; (with_reducible refine (frisketref12_Neutral.calls (rd t219 x11_3) t240 _ A37.out).mono ?_); rintro e w' ⟨rfl, ⟨nd, rfl⟩⟩; (try first | exact ⟨rfl, _, World.drewN_drewN _ _ _⟩ | exact ⟨rfl, _, Eq.trans (World.drewN_drewN _ _ _) (congrArg (World.drewN _) (Nat.add_assoc _ _ _))⟩))); go_upto_region 13 with (first | (go_at_call 15; (with_reducible refine (frisketref12_Neutral.calls (rd l0 x11_3) t238 _ A35.out).mono ?_); rintro e w' ⟨rfl, ⟨nd, rfl⟩⟩; (try first | exact ⟨rfl, _, World.drewN_drewN _ _ _⟩ | exact ⟨rfl, _, Eq.trans (World.drewN_drewN _ _ _) (congrArg (World.drewN _) (Nat.add_assoc _ _ _))⟩); have p239 : 0 ≤ (x11_3 : Int) := of_decide_eq_true (by first | (with_reducible assumption) | assumption); have q239 : x11_3 < (t219.length : Int) := of_decide_eq_true (by first | (with_reducible assumption) | assumption); obtain ⟨ad239, e239, hx239_0⟩ := Kd.at_int (Kd.R_reads' HO_5.out).2.2 x11_3 p239 q239; cases e239; replace p239 := eq_true p239; replace q239 := eq_true q239) | (go_at_call 15; (with_reducible refine (frisketref12_Neutral.calls (rd t219 x11_3) t240 _ A37.out).mono ?_); rintro e w' ⟨rfl, ⟨nd, rfl⟩⟩; (try first | exact ⟨rfl, _, World.drewN_drewN _ _ _⟩ | exact ⟨rfl, _, Eq.trans (World.drewN_drewN _ _ _) (congrArg (World.drewN _) (Nat.add_assoc _ _ _))⟩))))
                        (try simp only [Act.put, List.setIfInBounds_toArray, List.set_cons_zero, List.set_cons_succ])
                        go_cut [137] (fun v137 wc => ∃ (kq : Nat) (x137_37 : Bool), v137 = .bool x137_37 ∧ Aside0 (frisketlaw12_NeutralNone.j3 kq l0 t219 t231 x11_3 x137_37 a1_0 a1_1 a1_2 = some r) ∧ Aside0 (kq ≤ k3) ∧ Aside0 (Kd.R (Kd.int .i64) 23 wc w.heap.size (fun _ => True) (.slice (some ad239) t219.length co20) t219) ∧ Aside0 (Kd.R (Kd.int .i64) 3 wc w.heap.size (fun _ => True) v233 t231) ∧ Aside0 (wc.heap[gb215]? = some (.cells #[.int .i64 a1_0, .int .i64 a1_1, .int .i64 a1_2] 25 (0, 0))) ∧ Aside0 (Below w.heap.size w wc))
                        case first =>
                          have H := HC38.out
                          clear HC38
                          by_cases c39 : t240 = true
                          · subst c39
                            have H1 : (frisketlaw12_NeutralNone.j3 k3 l0 t219 t231 x11_3 true a1_0 a1_1 a1_2) = some r := by rw [if_pos rfl] at H; exact H
                            clear H
                            have H := H1
                            clear H1
                            have H' := Aside0.mk H
                            clear H
                            go_wp2
                            repeat (go_quiet (fail); try go_wp2)
                            go_meet
                            case rel => exact ⟨_, (true), (by first | rfl | (simp; done) | (simp [*]; done)), H', ⟨by have := HJ4.out; have := HJ16.out; have := HK3.out; first | omega | exact Nat.le_refl _⟩, ⟨by (with_reducible repeat (first | apply Kd.R_alloc | apply Kd.R_drewN | apply Kd.R_drew)); exact HO_5.out⟩, ⟨by (with_reducible repeat (first | apply Kd.R_alloc | apply Kd.R_drewN | apply Kd.R_drew)); exact HO_9.out⟩, ⟨by (with_reducible repeat (first | refine blk_drewN ?_ _ | refine blk_drew ?_ | refine blk_alloc ?_ _)); exact BK215.out⟩, ⟨by repeat (first | (with_reducible first | exact HB.out | apply below_alloc | apply pw_below_drewN | apply below_drew1 | refine below_set ?_ GE215.out) | exact HB.out)⟩⟩
                          · replace c39 := Bool.eq_false_iff.mpr c39
                            subst c39
                            have H1 : (if t238 = true then (if (rd t219 x11_3) = 0 then (if x11_3 < (t231.length : Int) then (if (rd t231 x11_3) < a1_0 then (frisketlaw12_NeutralNone.j3 k3 l0 t219 t231 x11_3 true a1_0 a1_1 a1_2) else (frisketlaw12_NeutralNone.j3 k3 l0 t219 t231 x11_3 (decide ((rd t231 x11_3) > (wrap64 (a1_0 + 2)))) a1_0 a1_1 a1_2)) else (none)) else (if (rd t219 x11_3) = 1 then (if x11_3 < (t231.length : Int) then (if (rd t231 x11_3) < a1_0 then (frisketlaw12_NeutralNone.j3 k3 l0 t219 t231 x11_3 true a1_0 a1_1 a1_2) else (frisketlaw12_NeutralNone.j3 k3 l0 t219 t231 x11_3 (decide ((rd t231 x11_3) > (wrap64 (a1_0 + 2)))) a1_0 a1_1 a1_2)) else (none)) else (frisketlaw12_NeutralNone.j3 k3 l0 t219 t231 x11_3 true a1_0 a1_1 a1_2))) else (if (rd t219 x11_3) = (rd l0 x11_3) then (if x11_3 < (t231.length : Int) then (if (rd t231 x11_3) < a1_0 then (frisketlaw12_NeutralNone.j3 k3 l0 t219 t231 x11_3 true a1_0 a1_1 a1_2) else (frisketlaw12_NeutralNone.j3 k3 l0 t219 t231 x11_3 (decide ((rd t231 x11_3) > (wrap64 (a1_0 + 2)))) a1_0 a1_1 a1_2)) else (none)) else (frisketlaw12_NeutralNone.j3 k3 l0 t219 t231 x11_3 true a1_0 a1_1 a1_2))) = some r := by rw [if_neg (show ¬ (false = true) by decide)] at H; exact H
                            clear H
                            have H := H1
                            clear H1
                            by_cases c40 : t238 = true
                            · subst c40
                              have H1 : (if (rd t219 x11_3) = 0 then (if x11_3 < (t231.length : Int) then (if (rd t231 x11_3) < a1_0 then (frisketlaw12_NeutralNone.j3 k3 l0 t219 t231 x11_3 true a1_0 a1_1 a1_2) else (frisketlaw12_NeutralNone.j3 k3 l0 t219 t231 x11_3 (decide ((rd t231 x11_3) > (wrap64 (a1_0 + 2)))) a1_0 a1_1 a1_2)) else (none)) else (if (rd t219 x11_3) = 1 then (if x11_3 < (t231.length : Int) then (if (rd t231 x11_3) < a1_0 then (frisketlaw12_NeutralNone.j3 k3 l0 t219 t231 x11_3 true a1_0 a1_1 a1_2) else (frisketlaw12_NeutralNone.j3 k3 l0 t219 t231 x11_3 (decide ((rd t231 x11_3) > (wrap64 (a1_0 + 2)))) a1_0 a1_1 a1_2)) else (none)) else (frisketlaw12_NeutralNone.j3 k3 l0 t219 t231 x11_3 true a1_0 a1_1 a1_2))) = some r := by rw [if_pos rfl] at H; exact H
                              clear H
                              have H := H1
                              clear H1
                              by_cases c41 : (rd t219 x11_3) = 0
                              · as_aux_lemma =>
                                rw [if_pos c41] at H
                                have c41b0 : ((rd t219 x11_3) == 0) = true := beq_iff_eq.mpr c41
                                have c41b1 : ((rd t219 x11_3) != 0) = false := bne_eq_false_iff_eq.mpr c41
                                clear c41
                                (first | rw [c41b0] | (simp only [i64_w, i32_w]; rw [c41b0]) | skip)
                                by_cases c42 : x11_3 < (t231.length : Int)
                                · rw [if_pos c42] at H
                                  have c42b0 : decide (x11_3 < (t231.length : Int)) = true := decide_eq_true c42
                                  clear c42
                                  by_cases c43 : (rd t231 x11_3) < a1_0
                                  · rw [if_pos c43] at H
                                    have c43b0 : decide ((rd t231 x11_3) < a1_0) = true := decide_eq_true c43
                                    clear c43
                                    have H' := Aside0.mk H
                                    clear H
                                    have p241 : 0 ≤ (x11_3 : Int) := of_decide_eq_true (by first | (with_reducible assumption) | assumption)
                                    have q241 : x11_3 < (t219.length : Int) := of_decide_eq_true (by first | (with_reducible assumption) | assumption)
                                    obtain ⟨ad241, e241, hx241_0⟩ := Kd.at_int (Kd.R_reads' HO_5.out).2.2 x11_3 p241 q241
                                    obtain rfl : ad239 = ad241 := (by injection e241)
                                    replace p241 := eq_true p241
                                    replace q241 := eq_true q241
                                    obtain ⟨Ao44, co44, eo44⟩ := Kd.R_slice HO_9.out
                                    subst eo44
                                    have p242 : 0 ≤ (x11_3 : Int) := of_decide_eq_true (by first | (with_reducible assumption) | assumption)
                                    have q242 : x11_3 < (t231.length : Int) := of_decide_eq_true (by first | (with_reducible assumption) | assumption)
                                    obtain ⟨ad242, e242, hx242_0⟩ := Kd.at_int (Kd.R_reads' HO_9.out).2.2 x11_3 p242 q242
                                    cases e242
                                    replace p242 := eq_true p242
                                    replace q242 := eq_true q242
                                    have hcz45_0 : wr.cell? ⟨gb215, 0, none⟩ = some (.int .i64 a1_0) := (blk_cell BK215.out 0).trans rfl
                                    have hcz45_1 : wr.cell? ⟨gb215, 1, none⟩ = some (.int .i64 a1_1) := (blk_cell BK215.out 1).trans rfl
                                    have hcz45_2 : wr.cell? ⟨gb215, 2, none⟩ = some (.int .i64 a1_2) := (blk_cell BK215.out 2).trans rfl
                                    have hfz45_0 := blk_frozen BK215.out 0
                                    have hfz45_1 := blk_frozen BK215.out 1
                                    have hfz45_2 := blk_frozen BK215.out 2
                                    go_wp2
                                    repeat (go_quiet (fail); try go_wp2)
                                    go_meet
                                    case rel => exact ⟨_, (true), (by first | rfl | (simp; done) | (simp [*]; done)), H', ⟨by have := HJ4.out; have := HJ16.out; have := HK3.out; first | omega | exact Nat.le_refl _⟩, ⟨by (with_reducible repeat (first | apply Kd.R_alloc | apply Kd.R_drewN | apply Kd.R_drew)); exact HO_5.out⟩, ⟨by (with_reducible repeat (first | apply Kd.R_alloc | apply Kd.R_drewN | apply Kd.R_drew)); exact HO_9.out⟩, ⟨by (with_reducible repeat (first | refine blk_drewN ?_ _ | refine blk_drew ?_ | refine blk_alloc ?_ _)); exact BK215.out⟩, ⟨by repeat (first | (with_reducible first | exact HB.out | apply below_alloc | apply pw_below_drewN | apply below_drew1 | refine below_set ?_ GE215.out) | exact HB.out)⟩⟩
                                  · rw [if_neg c43] at H
                                    have c43b0 : decide ((rd t231 x11_3) < a1_0) = false := decide_eq_false c43
                                    clear c43
                                    have H' := Aside0.mk H
                                    clear H
                                    have p241 : 0 ≤ (x11_3 : Int) := of_decide_eq_true (by first | (with_reducible assumption) | assumption)
                                    have q241 : x11_3 < (t219.length : Int) := of_decide_eq_true (by first | (with_reducible assumption) | assumption)
                                    obtain ⟨ad241, e241, hx241_0⟩ := Kd.at_int (Kd.R_reads' HO_5.out).2.2 x11_3 p241 q241
                                    obtain rfl : ad239 = ad241 := (by injection e241)
                                    replace p241 := eq_true p241
                                    replace q241 := eq_true q241
                                    obtain ⟨Ao46, co46, eo46⟩ := Kd.R_slice HO_9.out
                                    subst eo46
                                    have p242 : 0 ≤ (x11_3 : Int) := of_decide_eq_true (by first | (with_reducible assumption) | assumption)
                                    have q242 : x11_3 < (t231.length : Int) := of_decide_eq_true (by first | (with_reducible assumption) | assumption)
                                    obtain ⟨ad242, e242, hx242_0⟩ := Kd.at_int (Kd.R_reads' HO_9.out).2.2 x11_3 p242 q242
                                    cases e242
                                    replace p242 := eq_true p242
                                    replace q242 := eq_true q242
                                    have hcz47_0 : wr.cell? ⟨gb215, 0, none⟩ = some (.int .i64 a1_0) := (blk_cell BK215.out 0).trans rfl
                                    have hcz47_1 : wr.cell? ⟨gb215, 1, none⟩ = some (.int .i64 a1_1) := (blk_cell BK215.out 1).trans rfl
                                    have hcz47_2 : wr.cell? ⟨gb215, 2, none⟩ = some (.int .i64 a1_2) := (blk_cell BK215.out 2).trans rfl
                                    have hfz47_0 := blk_frozen BK215.out 0
                                    have hfz47_1 := blk_frozen BK215.out 1
                                    have hfz47_2 := blk_frozen BK215.out 2
                                    have p243 : 0 ≤ (x11_3 : Int) := of_decide_eq_true (by first | (with_reducible assumption) | assumption)
                                    have q243 : x11_3 < (t231.length : Int) := of_decide_eq_true (by first | (with_reducible assumption) | assumption)
                                    obtain ⟨ad243, e243, hx243_0⟩ := Kd.at_int (Kd.R_reads' HO_9.out).2.2 x11_3 p243 q243
                                    obtain rfl : ad242 = ad243 := (by injection e243)
                                    replace p243 := eq_true p243
                                    replace q243 := eq_true q243
                                    go_wp2
                                    repeat (go_quiet (fail); try go_wp2)
                                    go_meet
                                    case rel => exact ⟨_, (decide ((rd t231 x11_3) > (wrap64 (a1_0 + 2)))), (by first | rfl | (simp; done) | (simp [*]; done)), H', ⟨by have := HJ4.out; have := HJ16.out; have := HK3.out; first | omega | exact Nat.le_refl _⟩, ⟨by (with_reducible repeat (first | apply Kd.R_alloc | apply Kd.R_drewN | apply Kd.R_drew)); exact HO_5.out⟩, ⟨by (with_reducible repeat (first | apply Kd.R_alloc | apply Kd.R_drewN | apply Kd.R_drew)); exact HO_9.out⟩, ⟨by (with_reducible repeat (first | refine blk_drewN ?_ _ | refine blk_drew ?_ | refine blk_alloc ?_ _)); exact BK215.out⟩, ⟨by repeat (first | (with_reducible first | exact HB.out | apply below_alloc | apply pw_below_drewN | apply below_drew1 | refine below_set ?_ GE215.out) | exact HB.out)⟩⟩
                                · rw [if_neg c42] at H
                                  exact absurd H (by simp)
                              · as_aux_lemma =>
                                rw [if_neg c41] at H
                                have c41b0 : ((rd t219 x11_3) == 0) = false := beq_eq_false_iff_ne.mpr c41
                                have c41b1 : ((rd t219 x11_3) != 0) = true := bne_iff_ne.mpr c41
                                (first | rw [c41b0] | (simp only [i64_w, i32_w]; rw [c41b0]) | skip)
                                by_cases c48 : (rd t219 x11_3) = 1
                                · as_aux_lemma =>
                                  rw [if_pos c48] at H
                                  have c48b0 : ((rd t219 x11_3) == 1) = true := beq_iff_eq.mpr c48
                                  have c48b1 : ((rd t219 x11_3) != 1) = false := bne_eq_false_iff_eq.mpr c48
                                  clear c48
                                  by_cases c49 : x11_3 < (t231.length : Int)
                                  · rw [if_pos c49] at H
                                    have c49b0 : decide (x11_3 < (t231.length : Int)) = true := decide_eq_true c49
                                    clear c49
                                    by_cases c50 : (rd t231 x11_3) < a1_0
                                    · rw [if_pos c50] at H
                                      have c50b0 : decide ((rd t231 x11_3) < a1_0) = true := decide_eq_true c50
                                      clear c50
                                      have H' := Aside0.mk H
                                      clear H
                                      have p241 : 0 ≤ (x11_3 : Int) := of_decide_eq_true (by first | (with_reducible assumption) | assumption)
                                      have q241 : x11_3 < (t219.length : Int) := of_decide_eq_true (by first | (with_reducible assumption) | assumption)
                                      obtain ⟨ad241, e241, hx241_0⟩ := Kd.at_int (Kd.R_reads' HO_5.out).2.2 x11_3 p241 q241
                                      obtain rfl : ad239 = ad241 := (by injection e241)
                                      replace p241 := eq_true p241
                                      replace q241 := eq_true q241
                                      have p244 : 0 ≤ (x11_3 : Int) := of_decide_eq_true (by first | (with_reducible assumption) | assumption)
                                      have q244 : x11_3 < (t219.length : Int) := of_decide_eq_true (by first | (with_reducible assumption) | assumption)
                                      obtain ⟨ad244, e244, hx244_0⟩ := Kd.at_int (Kd.R_reads' HO_5.out).2.2 x11_3 p244 q244
                                      obtain rfl : ad239 = ad244 := (by injection e244)
                                      replace p244 := eq_true p244
                                      replace q244 := eq_true q244
                                      obtain ⟨Ao51, co51, eo51⟩ := Kd.R_slice HO_9.out
                                      subst eo51
                                      have p245 : 0 ≤ (x11_3 : Int) := of_decide_eq_true (by first | (with_reducible assumption) | assumption)
                                      have q245 : x11_3 < (t231.length : Int) := of_decide_eq_true (by first | (with_reducible assumption) | assumption)
                                      obtain ⟨ad245, e245, hx245_0⟩ := Kd.at_int (Kd.R_reads' HO_9.out).2.2 x11_3 p245 q245
                                      cases e245
                                      replace p245 := eq_true p245
                                      replace q245 := eq_true q245
                                      have hcz52_0 : wr.cell? ⟨gb215, 0, none⟩ = some (.int .i64 a1_0) := (blk_cell BK215.out 0).trans rfl
                                      have hcz52_1 : wr.cell? ⟨gb215, 1, none⟩ = some (.int .i64 a1_1) := (blk_cell BK215.out 1).trans rfl
                                      have hcz52_2 : wr.cell? ⟨gb215, 2, none⟩ = some (.int .i64 a1_2) := (blk_cell BK215.out 2).trans rfl
                                      have hfz52_0 := blk_frozen BK215.out 0
                                      have hfz52_1 := blk_frozen BK215.out 1
                                      have hfz52_2 := blk_frozen BK215.out 2
                                      go_wp2
                                      repeat (go_quiet (fail); try go_wp2)
                                      go_meet
                                      case rel => exact ⟨_, (true), (by first | rfl | (simp; done) | (simp [*]; done)), H', ⟨by have := HJ4.out; have := HJ16.out; have := HK3.out; first | omega | exact Nat.le_refl _⟩, ⟨by (with_reducible repeat (first | apply Kd.R_alloc | apply Kd.R_drewN | apply Kd.R_drew)); exact HO_5.out⟩, ⟨by (with_reducible repeat (first | apply Kd.R_alloc | apply Kd.R_drewN | apply Kd.R_drew)); exact HO_9.out⟩, ⟨by (with_reducible repeat (first | refine blk_drewN ?_ _ | refine blk_drew ?_ | refine blk_alloc ?_ _)); exact BK215.out⟩, ⟨by repeat (first | (with_reducible first | exact HB.out | apply below_alloc | apply pw_below_drewN | apply below_drew1 | refine below_set ?_ GE215.out) | exact HB.out)⟩⟩
                                    · rw [if_neg c50] at H
                                      have c50b0 : decide ((rd t231 x11_3) < a1_0) = false := decide_eq_false c50
                                      clear c50
                                      have H' := Aside0.mk H
                                      clear H
                                      have p241 : 0 ≤ (x11_3 : Int) := of_decide_eq_true (by first | (with_reducible assumption) | assumption)
                                      have q241 : x11_3 < (t219.length : Int) := of_decide_eq_true (by first | (with_reducible assumption) | assumption)
                                      obtain ⟨ad241, e241, hx241_0⟩ := Kd.at_int (Kd.R_reads' HO_5.out).2.2 x11_3 p241 q241
                                      obtain rfl : ad239 = ad241 := (by injection e241)
                                      replace p241 := eq_true p241
                                      replace q241 := eq_true q241
                                      have p244 : 0 ≤ (x11_3 : Int) := of_decide_eq_true (by first | (with_reducible assumption) | assumption)
                                      have q244 : x11_3 < (t219.length : Int) := of_decide_eq_true (by first | (with_reducible assumption) | assumption)
                                      obtain ⟨ad244, e244, hx244_0⟩ := Kd.at_int (Kd.R_reads' HO_5.out).2.2 x11_3 p244 q244
                                      obtain rfl : ad239 = ad244 := (by injection e244)
                                      replace p244 := eq_true p244
                                      replace q244 := eq_true q244
                                      obtain ⟨Ao53, co53, eo53⟩ := Kd.R_slice HO_9.out
                                      subst eo53
                                      have p245 : 0 ≤ (x11_3 : Int) := of_decide_eq_true (by first | (with_reducible assumption) | assumption)
                                      have q245 : x11_3 < (t231.length : Int) := of_decide_eq_true (by first | (with_reducible assumption) | assumption)
                                      obtain ⟨ad245, e245, hx245_0⟩ := Kd.at_int (Kd.R_reads' HO_9.out).2.2 x11_3 p245 q245
                                      cases e245
                                      replace p245 := eq_true p245
                                      replace q245 := eq_true q245
                                      have hcz54_0 : wr.cell? ⟨gb215, 0, none⟩ = some (.int .i64 a1_0) := (blk_cell BK215.out 0).trans rfl
                                      have hcz54_1 : wr.cell? ⟨gb215, 1, none⟩ = some (.int .i64 a1_1) := (blk_cell BK215.out 1).trans rfl
                                      have hcz54_2 : wr.cell? ⟨gb215, 2, none⟩ = some (.int .i64 a1_2) := (blk_cell BK215.out 2).trans rfl
                                      have hfz54_0 := blk_frozen BK215.out 0
                                      have hfz54_1 := blk_frozen BK215.out 1
                                      have hfz54_2 := blk_frozen BK215.out 2
                                      have p246 : 0 ≤ (x11_3 : Int) := of_decide_eq_true (by first | (with_reducible assumption) | assumption)
                                      have q246 : x11_3 < (t231.length : Int) := of_decide_eq_true (by first | (with_reducible assumption) | assumption)
                                      obtain ⟨ad246, e246, hx246_0⟩ := Kd.at_int (Kd.R_reads' HO_9.out).2.2 x11_3 p246 q246
                                      obtain rfl : ad245 = ad246 := (by injection e246)
                                      replace p246 := eq_true p246
                                      replace q246 := eq_true q246
                                      go_wp2
                                      repeat (go_quiet (fail); try go_wp2)
                                      go_meet
                                      case rel => exact ⟨_, (decide ((rd t231 x11_3) > (wrap64 (a1_0 + 2)))), (by first | rfl | (simp; done) | (simp [*]; done)), H', ⟨by have := HJ4.out; have := HJ16.out; have := HK3.out; first | omega | exact Nat.le_refl _⟩, ⟨by (with_reducible repeat (first | apply Kd.R_alloc | apply Kd.R_drewN | apply Kd.R_drew)); exact HO_5.out⟩, ⟨by (with_reducible repeat (first | apply Kd.R_alloc | apply Kd.R_drewN | apply Kd.R_drew)); exact HO_9.out⟩, ⟨by (with_reducible repeat (first | refine blk_drewN ?_ _ | refine blk_drew ?_ | refine blk_alloc ?_ _)); exact BK215.out⟩, ⟨by repeat (first | (with_reducible first | exact HB.out | apply below_alloc | apply pw_below_drewN | apply below_drew1 | refine below_set ?_ GE215.out) | exact HB.out)⟩⟩
                                  · rw [if_neg c49] at H
                                    exact absurd H (by simp)
                                · as_aux_lemma =>
                                  rw [if_neg c48] at H
                                  have c48b0 : ((rd t219 x11_3) == 1) = false := beq_eq_false_iff_ne.mpr c48
                                  have c48b1 : ((rd t219 x11_3) != 1) = true := bne_iff_ne.mpr c48
                                  have H' := Aside0.mk H
                                  clear H
                                  have p241 : 0 ≤ (x11_3 : Int) := of_decide_eq_true (by first | (with_reducible assumption) | assumption)
                                  have q241 : x11_3 < (t219.length : Int) := of_decide_eq_true (by first | (with_reducible assumption) | assumption)
                                  obtain ⟨ad241, e241, hx241_0⟩ := Kd.at_int (Kd.R_reads' HO_5.out).2.2 x11_3 p241 q241
                                  obtain rfl : ad239 = ad241 := (by injection e241)
                                  replace p241 := eq_true p241
                                  replace q241 := eq_true q241
                                  have p244 : 0 ≤ (x11_3 : Int) := of_decide_eq_true (by first | (with_reducible assumption) | assumption)
                                  have q244 : x11_3 < (t219.length : Int) := of_decide_eq_true (by first | (with_reducible assumption) | assumption)
                                  obtain ⟨ad244, e244, hx244_0⟩ := Kd.at_int (Kd.R_reads' HO_5.out).2.2 x11_3 p244 q244
                                  obtain rfl : ad239 = ad244 := (by injection e244)
                                  replace p244 := eq_true p244
                                  replace q244 := eq_true q244
                                  go_wp2
                                  repeat (go_quiet (fail); try go_wp2)
                                  go_meet
                                  case rel => exact ⟨_, (true), (by first | rfl | (simp; done) | (simp [*]; done)), H', ⟨by have := HJ4.out; have := HJ16.out; have := HK3.out; first | omega | exact Nat.le_refl _⟩, ⟨by (with_reducible repeat (first | apply Kd.R_alloc | apply Kd.R_drewN | apply Kd.R_drew)); exact HO_5.out⟩, ⟨by (with_reducible repeat (first | apply Kd.R_alloc | apply Kd.R_drewN | apply Kd.R_drew)); exact HO_9.out⟩, ⟨by (with_reducible repeat (first | refine blk_drewN ?_ _ | refine blk_drew ?_ | refine blk_alloc ?_ _)); exact BK215.out⟩, ⟨by repeat (first | (with_reducible first | exact HB.out | apply below_alloc | apply pw_below_drewN | apply below_drew1 | refine below_set ?_ GE215.out) | exact HB.out)⟩⟩
                            · replace c40 := Bool.eq_false_iff.mpr c40
                              subst c40
                              have H1 : (if (rd t219 x11_3) = (rd l0 x11_3) then (if x11_3 < (t231.length : Int) then (if (rd t231 x11_3) < a1_0 then (frisketlaw12_NeutralNone.j3 k3 l0 t219 t231 x11_3 true a1_0 a1_1 a1_2) else (frisketlaw12_NeutralNone.j3 k3 l0 t219 t231 x11_3 (decide ((rd t231 x11_3) > (wrap64 (a1_0 + 2)))) a1_0 a1_1 a1_2)) else (none)) else (frisketlaw12_NeutralNone.j3 k3 l0 t219 t231 x11_3 true a1_0 a1_1 a1_2)) = some r := by rw [if_neg (show ¬ (false = true) by decide)] at H; exact H
                              clear H
                              have H := H1
                              clear H1
                              by_cases c55 : (rd t219 x11_3) = (rd l0 x11_3)
                              · as_aux_lemma =>
                                rw [if_pos c55] at H
                                have c55b0 : ((rd t219 x11_3) == (rd l0 x11_3)) = true := beq_iff_eq.mpr c55
                                have c55b1 : ((rd t219 x11_3) != (rd l0 x11_3)) = false := bne_eq_false_iff_eq.mpr c55
                                clear c55
                                by_cases c56 : x11_3 < (t231.length : Int)
                                · rw [if_pos c56] at H
                                  have c56b0 : decide (x11_3 < (t231.length : Int)) = true := decide_eq_true c56
                                  clear c56
                                  by_cases c57 : (rd t231 x11_3) < a1_0
                                  · rw [if_pos c57] at H
                                    have c57b0 : decide ((rd t231 x11_3) < a1_0) = true := decide_eq_true c57
                                    clear c57
                                    have H' := Aside0.mk H
                                    clear H
                                    have p247 : 0 ≤ (x11_3 : Int) := of_decide_eq_true (by first | (with_reducible assumption) | assumption)
                                    have q247 : x11_3 < (t219.length : Int) := of_decide_eq_true (by first | (with_reducible assumption) | assumption)
                                    obtain ⟨ad247, e247, hx247_0⟩ := Kd.at_int (Kd.R_reads' HO_5.out).2.2 x11_3 p247 q247
                                    obtain rfl : ad239 = ad247 := (by injection e247)
                                    replace p247 := eq_true p247
                                    replace q247 := eq_true q247
                                    have p248 : 0 ≤ (x11_3 : Int) := of_decide_eq_true (by first | (with_reducible assumption) | assumption)
                                    have q248 : x11_3 < (l0.length : Int) := of_decide_eq_true (by first | (with_reducible assumption) | assumption)
                                    obtain ⟨ad248, e248, hx248_0⟩ := Kd.at_int HR0.out x11_3 p248 q248
                                    obtain rfl : ad237 = ad248 := (by injection e248)
                                    replace hx248_0 := (HB.out.cell (World.block_lt_of_cell? w _ hx248_0)).trans hx248_0
                                    replace p248 := eq_true p248
                                    replace q248 := eq_true q248
                                    obtain ⟨Ao58, co58, eo58⟩ := Kd.R_slice HO_9.out
                                    subst eo58
                                    have p249 : 0 ≤ (x11_3 : Int) := of_decide_eq_true (by first | (with_reducible assumption) | assumption)
                                    have q249 : x11_3 < (t231.length : Int) := of_decide_eq_true (by first | (with_reducible assumption) | assumption)
                                    obtain ⟨ad249, e249, hx249_0⟩ := Kd.at_int (Kd.R_reads' HO_9.out).2.2 x11_3 p249 q249
                                    cases e249
                                    replace p249 := eq_true p249
                                    replace q249 := eq_true q249
                                    have hcz59_0 : wr.cell? ⟨gb215, 0, none⟩ = some (.int .i64 a1_0) := (blk_cell BK215.out 0).trans rfl
                                    have hcz59_1 : wr.cell? ⟨gb215, 1, none⟩ = some (.int .i64 a1_1) := (blk_cell BK215.out 1).trans rfl
                                    have hcz59_2 : wr.cell? ⟨gb215, 2, none⟩ = some (.int .i64 a1_2) := (blk_cell BK215.out 2).trans rfl
                                    have hfz59_0 := blk_frozen BK215.out 0
                                    have hfz59_1 := blk_frozen BK215.out 1
                                    have hfz59_2 := blk_frozen BK215.out 2
                                    go_wp2
                                    repeat (go_quiet (fail); try go_wp2)
                                    go_meet
                                    case rel => exact ⟨_, (true), (by first | rfl | (simp; done) | (simp [*]; done)), H', ⟨by have := HJ4.out; have := HJ16.out; have := HK3.out; first | omega | exact Nat.le_refl _⟩, ⟨by (with_reducible repeat (first | apply Kd.R_alloc | apply Kd.R_drewN | apply Kd.R_drew)); exact HO_5.out⟩, ⟨by (with_reducible repeat (first | apply Kd.R_alloc | apply Kd.R_drewN | apply Kd.R_drew)); exact HO_9.out⟩, ⟨by (with_reducible repeat (first | refine blk_drewN ?_ _ | refine blk_drew ?_ | refine blk_alloc ?_ _)); exact BK215.out⟩, ⟨by repeat (first | (with_reducible first | exact HB.out | apply below_alloc | apply pw_below_drewN | apply below_drew1 | refine below_set ?_ GE215.out) | exact HB.out)⟩⟩
                                  · rw [if_neg c57] at H
                                    have c57b0 : decide ((rd t231 x11_3) < a1_0) = false := decide_eq_false c57
                                    clear c57
                                    have H' := Aside0.mk H
                                    clear H
                                    have p247 : 0 ≤ (x11_3 : Int) := of_decide_eq_true (by first | (with_reducible assumption) | assumption)
                                    have q247 : x11_3 < (t219.length : Int) := of_decide_eq_true (by first | (with_reducible assumption) | assumption)
                                    obtain ⟨ad247, e247, hx247_0⟩ := Kd.at_int (Kd.R_reads' HO_5.out).2.2 x11_3 p247 q247
                                    obtain rfl : ad239 = ad247 := (by injection e247)
                                    replace p247 := eq_true p247
                                    replace q247 := eq_true q247
                                    have p248 : 0 ≤ (x11_3 : Int) := of_decide_eq_true (by first | (with_reducible assumption) | assumption)
                                    have q248 : x11_3 < (l0.length : Int) := of_decide_eq_true (by first | (with_reducible assumption) | assumption)
                                    obtain ⟨ad248, e248, hx248_0⟩ := Kd.at_int HR0.out x11_3 p248 q248
                                    obtain rfl : ad237 = ad248 := (by injection e248)
                                    replace hx248_0 := (HB.out.cell (World.block_lt_of_cell? w _ hx248_0)).trans hx248_0
                                    replace p248 := eq_true p248
                                    replace q248 := eq_true q248
                                    obtain ⟨Ao60, co60, eo60⟩ := Kd.R_slice HO_9.out
                                    subst eo60
                                    have p249 : 0 ≤ (x11_3 : Int) := of_decide_eq_true (by first | (with_reducible assumption) | assumption)
                                    have q249 : x11_3 < (t231.length : Int) := of_decide_eq_true (by first | (with_reducible assumption) | assumption)
                                    obtain ⟨ad249, e249, hx249_0⟩ := Kd.at_int (Kd.R_reads' HO_9.out).2.2 x11_3 p249 q249
                                    cases e249
                                    replace p249 := eq_true p249
                                    replace q249 := eq_true q249
                                    have hcz61_0 : wr.cell? ⟨gb215, 0, none⟩ = some (.int .i64 a1_0) := (blk_cell BK215.out 0).trans rfl
                                    have hcz61_1 : wr.cell? ⟨gb215, 1, none⟩ = some (.int .i64 a1_1) := (blk_cell BK215.out 1).trans rfl
                                    have hcz61_2 : wr.cell? ⟨gb215, 2, none⟩ = some (.int .i64 a1_2) := (blk_cell BK215.out 2).trans rfl
                                    have hfz61_0 := blk_frozen BK215.out 0
                                    have hfz61_1 := blk_frozen BK215.out 1
                                    have hfz61_2 := blk_frozen BK215.out 2
                                    have p250 : 0 ≤ (x11_3 : Int) := of_decide_eq_true (by first | (with_reducible assumption) | assumption)
                                    have q250 : x11_3 < (t231.length : Int) := of_decide_eq_true (by first | (with_reducible assumption) | assumption)
                                    obtain ⟨ad250, e250, hx250_0⟩ := Kd.at_int (Kd.R_reads' HO_9.out).2.2 x11_3 p250 q250
                                    obtain rfl : ad249 = ad250 := (by injection e250)
                                    replace p250 := eq_true p250
                                    replace q250 := eq_true q250
                                    go_wp2
                                    repeat (go_quiet (fail); try go_wp2)
                                    go_meet
                                    case rel => exact ⟨_, (decide ((rd t231 x11_3) > (wrap64 (a1_0 + 2)))), (by first | rfl | (simp; done) | (simp [*]; done)), H', ⟨by have := HJ4.out; have := HJ16.out; have := HK3.out; first | omega | exact Nat.le_refl _⟩, ⟨by (with_reducible repeat (first | apply Kd.R_alloc | apply Kd.R_drewN | apply Kd.R_drew)); exact HO_5.out⟩, ⟨by (with_reducible repeat (first | apply Kd.R_alloc | apply Kd.R_drewN | apply Kd.R_drew)); exact HO_9.out⟩, ⟨by (with_reducible repeat (first | refine blk_drewN ?_ _ | refine blk_drew ?_ | refine blk_alloc ?_ _)); exact BK215.out⟩, ⟨by repeat (first | (with_reducible first | exact HB.out | apply below_alloc | apply pw_below_drewN | apply below_drew1 | refine below_set ?_ GE215.out) | exact HB.out)⟩⟩
                                · rw [if_neg c56] at H
                                  exact absurd H (by simp)
                              · as_aux_lemma =>
                                rw [if_neg c55] at H
                                have c55b0 : ((rd t219 x11_3) == (rd l0 x11_3)) = false := beq_eq_false_iff_ne.mpr c55
                                have c55b1 : ((rd t219 x11_3) != (rd l0 x11_3)) = true := bne_iff_ne.mpr c55
                                have H' := Aside0.mk H
                                clear H
                                have p247 : 0 ≤ (x11_3 : Int) := of_decide_eq_true (by first | (with_reducible assumption) | assumption)
                                have q247 : x11_3 < (t219.length : Int) := of_decide_eq_true (by first | (with_reducible assumption) | assumption)
                                obtain ⟨ad247, e247, hx247_0⟩ := Kd.at_int (Kd.R_reads' HO_5.out).2.2 x11_3 p247 q247
                                obtain rfl : ad239 = ad247 := (by injection e247)
                                replace p247 := eq_true p247
                                replace q247 := eq_true q247
                                have p248 : 0 ≤ (x11_3 : Int) := of_decide_eq_true (by first | (with_reducible assumption) | assumption)
                                have q248 : x11_3 < (l0.length : Int) := of_decide_eq_true (by first | (with_reducible assumption) | assumption)
                                obtain ⟨ad248, e248, hx248_0⟩ := Kd.at_int HR0.out x11_3 p248 q248
                                obtain rfl : ad237 = ad248 := (by injection e248)
                                replace hx248_0 := (HB.out.cell (World.block_lt_of_cell? w _ hx248_0)).trans hx248_0
                                replace p248 := eq_true p248
                                replace q248 := eq_true q248
                                go_wp2
                                repeat (go_quiet (fail); try go_wp2)
                                go_meet
                                case rel => exact ⟨_, (true), (by first | rfl | (simp; done) | (simp [*]; done)), H', ⟨by have := HJ4.out; have := HJ16.out; have := HK3.out; first | omega | exact Nat.le_refl _⟩, ⟨by (with_reducible repeat (first | apply Kd.R_alloc | apply Kd.R_drewN | apply Kd.R_drew)); exact HO_5.out⟩, ⟨by (with_reducible repeat (first | apply Kd.R_alloc | apply Kd.R_drewN | apply Kd.R_drew)); exact HO_9.out⟩, ⟨by (with_reducible repeat (first | refine blk_drewN ?_ _ | refine blk_drew ?_ | refine blk_alloc ?_ _)); exact BK215.out⟩, ⟨by repeat (first | (with_reducible first | exact HB.out | apply below_alloc | apply pw_below_drewN | apply below_drew1 | refine below_set ?_ GE215.out) | exact HB.out)⟩⟩
                        case rest =>
                          clear HC38
                          try clear c1
                          try clear c2
                          try clear p2
                          try clear q2
                          try clear hx2
                          try clear c3
                          try clear c4
                          try clear c5
                          try clear p6
                          try clear c10
                          try clear c10b0
                          try clear c10b1
                          try clear c11
                          try clear p23
                          try clear q23
                          try clear hx23
                          try clear c24
                          try clear c24b0
                          try clear c24b1
                          try clear p24
                          try clear q24
                          try clear hx24
                          try clear c25
                          try clear c25b0
                          try clear c25b1
                          try clear p25
                          try clear q25
                          try clear hx25
                          try clear c26
                          try clear c26b0
                          try clear c26b1
                          try clear c26b2
                          try clear c27
                          try clear c27b0
                          try clear c27b1
                          try clear c27b2
                          try clear c32
                          try clear c33
                          try clear c33b0
                          try clear c34
                          try clear c34b0
                          try clear c36
                          try clear c36b0
                          try clear c39
                          try clear c40
                          try clear c41
                          try clear c41b0
                          try clear c41b1
                          try clear c42
                          try clear c42b0
                          try clear c43
                          try clear c43b0
                          try clear c48
                          try clear c48b0
                          try clear c48b1
                          try clear c49
                          try clear c49b0
                          try clear c50
                          try clear c50b0
                          try clear c55
                          try clear c55b0
                          try clear c55b1
                          try clear c56
                          try clear c56b0
                          try clear c57
                          try clear c57b0
                          try clear hcz18_0
                          try clear hcz18_1
                          try clear hcz18_2
                          try clear hcz22_0
                          try clear hcz22_1
                          try clear hcz22_2
                          try clear hcz45_0
                          try clear hcz45_1
                          try clear hcz45_2
                          try clear hcz47_0
                          try clear hcz47_1
                          try clear hcz47_2
                          try clear hcz52_0
                          try clear hcz52_1
                          try clear hcz52_2
                          try clear hcz54_0
                          try clear hcz54_1
                          try clear hcz54_2
                          try clear hcz59_0
                          try clear hcz59_1
                          try clear hcz59_2
                          try clear hcz61_0
                          try clear hcz61_1
                          try clear hcz61_2
                          try clear hcz7_0
                          try clear hcz7_1
                          try clear hcz7_2
                          try clear hfz18_0
                          try clear hfz18_1
                          try clear hfz18_2
                          try clear hfz22_0
                          try clear hfz22_1
                          try clear hfz22_2
                          try clear hfz45_0
                          try clear hfz45_1
                          try clear hfz45_2
                          try clear hfz47_0
                          try clear hfz47_1
                          try clear hfz47_2
                          try clear hfz52_0
                          try clear hfz52_1
                          try clear hfz52_2
                          try clear hfz54_0
                          try clear hfz54_1
                          try clear hfz54_2
                          try clear hfz59_0
                          try clear hfz59_1
                          try clear hfz59_2
                          try clear hfz61_0
                          try clear hfz61_1
                          try clear hfz61_2
                          try clear hfz7_0
                          try clear hfz7_1
                          try clear hfz7_2
                          try clear hx237_0
                          try clear hx239_0
                          try clear hx241_0
                          try clear hx242_0
                          try clear hx243_0
                          try clear hx244_0
                          try clear hx245_0
                          try clear hx246_0
                          try clear hx247_0
                          try clear hx248_0
                          try clear hx249_0
                          try clear hx250_0
                          try clear p2
                          try clear p237
                          try clear p239
                          try clear p241
                          try clear p242
                          try clear p243
                          try clear p244
                          try clear p245
                          try clear p246
                          try clear p247
                          try clear p248
                          try clear p249
                          try clear p250
                          try clear q237
                          try clear q239
                          try clear q241
                          try clear q242
                          try clear q243
                          try clear q244
                          try clear q245
                          try clear q246
                          try clear q247
                          try clear q248
                          try clear q249
                          try clear q250
                          obtain ⟨kq, x137_37, rfl, HA, HJ37, HO_5, HO_9, BK215, HB⟩ := hcut
                          cases kq with
                          | zero => exact absurd HA.out (by simp [frisketlaw12_NeutralNone.j3])
                          | succ kj37 =>
                            have H := HA.out
                            clear HA
                            simp only [frisketlaw12_NeutralNone.j3] at H
                            by_cases c62 : x137_37 = true
                            · subst c62
                              have H1 : (some false) = some r := by rw [if_pos rfl] at H; exact H
                              clear H
                              have H := H1
                              clear H1
                              exact af_absurd HRT.out H (by repeat (first | exact AF.none | exact AF.false | refine AF.ite ?_ ?_ | refine AF.bind (fun _ => ?_)))
                            · replace c62 := Bool.eq_false_iff.mpr c62
                              subst c62
                              have H1 : (if 0 ≤ x11_3 then (if x11_3 < (t219.length : Int) then (if (rd t219 x11_3) = 0 then (if x11_3 < (t231.length : Int) then (if (Int.tmod (rd t231 x11_3) 2) = 0 then (if (rd t219 x11_3) = 1 then (if (Int.tmod (rd t231 x11_3) 2) = 1 then (frisketlaw12_NeutralNone.l0 kj37 l0 t219 t231 (wrap64 (x11_3 + 1)) a1_0 a1_1 a1_2) else (some false)) else (frisketlaw12_NeutralNone.l0 kj37 l0 t219 t231 (wrap64 (x11_3 + 1)) a1_0 a1_1 a1_2)) else (some false)) else (none)) else (if (rd t219 x11_3) = 3 then (if x11_3 < (t231.length : Int) then (if (Int.tmod (rd t231 x11_3) 2) = 0 then (if (rd t219 x11_3) = 1 then (if (Int.tmod (rd t231 x11_3) 2) = 1 then (frisketlaw12_NeutralNone.l0 kj37 l0 t219 t231 (wrap64 (x11_3 + 1)) a1_0 a1_1 a1_2) else (some false)) else (frisketlaw12_NeutralNone.l0 kj37 l0 t219 t231 (wrap64 (x11_3 + 1)) a1_0 a1_1 a1_2)) else (some false)) else (none)) else (if (rd t219 x11_3) = 6 then (if x11_3 < (t231.length : Int) then (if (Int.tmod (rd t231 x11_3) 2) = 0 then (if (rd t219 x11_3) = 1 then (if (Int.tmod (rd t231 x11_3) 2) = 1 then (frisketlaw12_NeutralNone.l0 kj37 l0 t219 t231 (wrap64 (x11_3 + 1)) a1_0 a1_1 a1_2) else (some false)) else (frisketlaw12_NeutralNone.l0 kj37 l0 t219 t231 (wrap64 (x11_3 + 1)) a1_0 a1_1 a1_2)) else (some false)) else (none)) else (if (rd t219 x11_3) = 1 then (if x11_3 < (t231.length : Int) then (if (Int.tmod (rd t231 x11_3) 2) = 1 then (frisketlaw12_NeutralNone.l0 kj37 l0 t219 t231 (wrap64 (x11_3 + 1)) a1_0 a1_1 a1_2) else (some false)) else (none)) else (frisketlaw12_NeutralNone.l0 kj37 l0 t219 t231 (wrap64 (x11_3 + 1)) a1_0 a1_1 a1_2))))) else (none)) else (none)) = some r := by rw [if_neg (show ¬ (false = true) by decide)] at H; exact H
                              clear H
                              have H := H1
                              clear H1
                              by_cases c63 : 0 ≤ x11_3
                              · rw [if_pos c63] at H
                                have c63b0 : decide (0 ≤ x11_3) = true := decide_eq_true c63
                                clear c63
                                by_cases c64 : x11_3 < (t219.length : Int)
                                · rw [if_pos c64] at H
                                  have c64b0 : decide (x11_3 < (t219.length : Int)) = true := decide_eq_true c64
                                  clear c64
                                  by_cases c65 : (rd t219 x11_3) = 0
                                  · as_aux_lemma =>
                                    rw [if_pos c65] at H
                                    have c65b0 : ((rd t219 x11_3) == 0) = true := beq_iff_eq.mpr c65
                                    have c65b1 : ((rd t219 x11_3) != 0) = false := bne_eq_false_iff_eq.mpr c65
                                    clear c65
                                    by_cases c66 : x11_3 < (t231.length : Int)
                                    · rw [if_pos c66] at H
                                      have c66b0 : decide (x11_3 < (t231.length : Int)) = true := decide_eq_true c66
                                      clear c66
                                      by_cases c67 : (Int.tmod (rd t231 x11_3) 2) = 0
                                      · rw [if_pos c67] at H
                                        have c67b0 : ((Int.tmod (rd t231 x11_3) 2) == 0) = true := beq_iff_eq.mpr c67
                                        have c67b1 : ((Int.tmod (rd t231 x11_3) 2) != 0) = false := bne_eq_false_iff_eq.mpr c67
                                        clear c67
                                        by_cases c68 : (rd t219 x11_3) = 1
                                        · rw [if_pos c68] at H
                                          have c68b0 : ((rd t219 x11_3) == 1) = true := beq_iff_eq.mpr c68
                                          have c68b1 : ((rd t219 x11_3) != 1) = false := bne_eq_false_iff_eq.mpr c68
                                          clear c68
                                          by_cases c69 : (Int.tmod (rd t231 x11_3) 2) = 1
                                          · rw [if_pos c69] at H
                                            have c69b0 : ((Int.tmod (rd t231 x11_3) 2) == 1) = true := beq_iff_eq.mpr c69
                                            have c69b1 : ((Int.tmod (rd t231 x11_3) 2) != 1) = false := bne_eq_false_iff_eq.mpr c69
                                            clear c69
                                            have H' := Aside0.mk H
                                            clear H
                                            have p251 : 0 ≤ (x11_3 : Int) := of_decide_eq_true (by first | (with_reducible assumption) | assumption)
                                            have q251 : x11_3 < (t219.length : Int) := of_decide_eq_true (by first | (with_reducible assumption) | assumption)
                                            obtain ⟨ad251, e251, hx251_0⟩ := Kd.at_int (Kd.R_reads' HO_5.out).2.2 x11_3 p251 q251
                                            obtain rfl : ad239 = ad251 := (by injection e251)
                                            replace p251 := eq_true p251
                                            replace q251 := eq_true q251
                                            obtain ⟨Ao70, co70, eo70⟩ := Kd.R_slice HO_9.out
                                            subst eo70
                                            have p252 : 0 ≤ (x11_3 : Int) := of_decide_eq_true (by first | (with_reducible assumption) | assumption)
                                            have q252 : x11_3 < (t231.length : Int) := of_decide_eq_true (by first | (with_reducible assumption) | assumption)
                                            obtain ⟨ad252, e252, hx252_0⟩ := Kd.at_int (Kd.R_reads' HO_9.out).2.2 x11_3 p252 q252
                                            cases e252
                                            replace p252 := eq_true p252
                                            replace q252 := eq_true q252
                                            have p253 : 0 ≤ (x11_3 : Int) := of_decide_eq_true (by first | (with_reducible assumption) | assumption)
                                            have q253 : x11_3 < (t219.length : Int) := of_decide_eq_true (by first | (with_reducible assumption) | assumption)
                                            obtain ⟨ad253, e253, hx253_0⟩ := Kd.at_int (Kd.R_reads' HO_5.out).2.2 x11_3 p253 q253
                                            obtain rfl : ad239 = ad253 := (by injection e253)
                                            replace p253 := eq_true p253
                                            replace q253 := eq_true q253
                                            have p254 : 0 ≤ (x11_3 : Int) := of_decide_eq_true (by first | (with_reducible assumption) | assumption)
                                            have q254 : x11_3 < (t231.length : Int) := of_decide_eq_true (by first | (with_reducible assumption) | assumption)
                                            obtain ⟨ad254, e254, hx254_0⟩ := Kd.at_int (Kd.R_reads' HO_9.out).2.2 x11_3 p254 q254
                                            obtain rfl : ad252 = ad254 := (by injection e254)
                                            replace p254 := eq_true p254
                                            replace q254 := eq_true q254
                                            go_wp2
                                            repeat (go_quiet (fail); try go_wp2)
                                            go_roundg kj37
                                            case measure => have := HJ4.out; have := HJ16.out; have := HK3.out; have := HJ37.out; omega
                                            case rel => exact ⟨(wrap64 (x11_3 + 1)), (by first | rfl | (simp; done) | (simp [*]; done)), H', ⟨by have := HJ4.out; have := HJ16.out; have := HK3.out; have := HJ37.out; omega⟩, ⟨by (with_reducible repeat (first | apply Kd.R_alloc | apply Kd.R_drewN | apply Kd.R_drew)); exact HO_5.out⟩, ⟨by (with_reducible repeat (first | apply Kd.R_alloc | apply Kd.R_drewN | apply Kd.R_drew)); exact HO_9.out⟩, ⟨by (with_reducible repeat (first | refine blk_drewN ?_ _ | refine blk_drew ?_ | refine blk_alloc ?_ _)); exact BK215.out⟩, ⟨by repeat (first | (with_reducible first | exact HB.out | apply below_alloc | apply pw_below_drewN | apply below_drew1 | refine below_set ?_ GE215.out) | exact HB.out)⟩⟩
                                          · rw [if_neg c69] at H
                                            have c69b0 : ((Int.tmod (rd t231 x11_3) 2) == 1) = false := beq_eq_false_iff_ne.mpr c69
                                            have c69b1 : ((Int.tmod (rd t231 x11_3) 2) != 1) = true := bne_iff_ne.mpr c69
                                            exact af_absurd HRT.out H (by repeat (first | exact AF.none | exact AF.false | refine AF.ite ?_ ?_ | refine AF.bind (fun _ => ?_)))
                                        · rw [if_neg c68] at H
                                          have c68b0 : ((rd t219 x11_3) == 1) = false := beq_eq_false_iff_ne.mpr c68
                                          have c68b1 : ((rd t219 x11_3) != 1) = true := bne_iff_ne.mpr c68
                                          have H' := Aside0.mk H
                                          clear H
                                          have p251 : 0 ≤ (x11_3 : Int) := of_decide_eq_true (by first | (with_reducible assumption) | assumption)
                                          have q251 : x11_3 < (t219.length : Int) := of_decide_eq_true (by first | (with_reducible assumption) | assumption)
                                          obtain ⟨ad251, e251, hx251_0⟩ := Kd.at_int (Kd.R_reads' HO_5.out).2.2 x11_3 p251 q251
                                          obtain rfl : ad239 = ad251 := (by injection e251)
                                          replace p251 := eq_true p251
                                          replace q251 := eq_true q251
                                          obtain ⟨Ao71, co71, eo71⟩ := Kd.R_slice HO_9.out
                                          subst eo71
                                          have p252 : 0 ≤ (x11_3 : Int) := of_decide_eq_true (by first | (with_reducible assumption) | assumption)
                                          have q252 : x11_3 < (t231.length : Int) := of_decide_eq_true (by first | (with_reducible assumption) | assumption)
                                          obtain ⟨ad252, e252, hx252_0⟩ := Kd.at_int (Kd.R_reads' HO_9.out).2.2 x11_3 p252 q252
                                          cases e252
                                          replace p252 := eq_true p252
                                          replace q252 := eq_true q252
                                          have p253 : 0 ≤ (x11_3 : Int) := of_decide_eq_true (by first | (with_reducible assumption) | assumption)
                                          have q253 : x11_3 < (t219.length : Int) := of_decide_eq_true (by first | (with_reducible assumption) | assumption)
                                          obtain ⟨ad253, e253, hx253_0⟩ := Kd.at_int (Kd.R_reads' HO_5.out).2.2 x11_3 p253 q253
                                          obtain rfl : ad239 = ad253 := (by injection e253)
                                          replace p253 := eq_true p253
                                          replace q253 := eq_true q253
                                          go_wp2
                                          repeat (go_quiet (fail); try go_wp2)
                                          go_roundg kj37
                                          case measure => have := HJ4.out; have := HJ16.out; have := HK3.out; have := HJ37.out; omega
                                          case rel => exact ⟨(wrap64 (x11_3 + 1)), (by first | rfl | (simp; done) | (simp [*]; done)), H', ⟨by have := HJ4.out; have := HJ16.out; have := HK3.out; have := HJ37.out; omega⟩, ⟨by (with_reducible repeat (first | apply Kd.R_alloc | apply Kd.R_drewN | apply Kd.R_drew)); exact HO_5.out⟩, ⟨by (with_reducible repeat (first | apply Kd.R_alloc | apply Kd.R_drewN | apply Kd.R_drew)); exact HO_9.out⟩, ⟨by (with_reducible repeat (first | refine blk_drewN ?_ _ | refine blk_drew ?_ | refine blk_alloc ?_ _)); exact BK215.out⟩, ⟨by repeat (first | (with_reducible first | exact HB.out | apply below_alloc | apply pw_below_drewN | apply below_drew1 | refine below_set ?_ GE215.out) | exact HB.out)⟩⟩
                                      · rw [if_neg c67] at H
                                        have c67b0 : ((Int.tmod (rd t231 x11_3) 2) == 0) = false := beq_eq_false_iff_ne.mpr c67
                                        have c67b1 : ((Int.tmod (rd t231 x11_3) 2) != 0) = true := bne_iff_ne.mpr c67
                                        exact af_absurd HRT.out H (by repeat (first | exact AF.none | exact AF.false | refine AF.ite ?_ ?_ | refine AF.bind (fun _ => ?_)))
                                    · rw [if_neg c66] at H
                                      exact absurd H (by simp)
                                  · as_aux_lemma =>
                                    rw [if_neg c65] at H
                                    have c65b0 : ((rd t219 x11_3) == 0) = false := beq_eq_false_iff_ne.mpr c65
                                    have c65b1 : ((rd t219 x11_3) != 0) = true := bne_iff_ne.mpr c65
                                    by_cases c72 : (rd t219 x11_3) = 3
                                    · as_aux_lemma =>
                                      rw [if_pos c72] at H
                                      have c72b0 : ((rd t219 x11_3) == 3) = true := beq_iff_eq.mpr c72
                                      have c72b1 : ((rd t219 x11_3) != 3) = false := bne_eq_false_iff_eq.mpr c72
                                      clear c72
                                      by_cases c73 : x11_3 < (t231.length : Int)
                                      · rw [if_pos c73] at H
                                        have c73b0 : decide (x11_3 < (t231.length : Int)) = true := decide_eq_true c73
                                        clear c73
                                        by_cases c74 : (Int.tmod (rd t231 x11_3) 2) = 0
                                        · rw [if_pos c74] at H
                                          have c74b0 : ((Int.tmod (rd t231 x11_3) 2) == 0) = true := beq_iff_eq.mpr c74
                                          have c74b1 : ((Int.tmod (rd t231 x11_3) 2) != 0) = false := bne_eq_false_iff_eq.mpr c74
                                          clear c74
                                          by_cases c75 : (rd t219 x11_3) = 1
                                          · rw [if_pos c75] at H
                                            have c75b0 : ((rd t219 x11_3) == 1) = true := beq_iff_eq.mpr c75
                                            have c75b1 : ((rd t219 x11_3) != 1) = false := bne_eq_false_iff_eq.mpr c75
                                            clear c75
                                            by_cases c76 : (Int.tmod (rd t231 x11_3) 2) = 1
                                            · rw [if_pos c76] at H
                                              have c76b0 : ((Int.tmod (rd t231 x11_3) 2) == 1) = true := beq_iff_eq.mpr c76
                                              have c76b1 : ((Int.tmod (rd t231 x11_3) 2) != 1) = false := bne_eq_false_iff_eq.mpr c76
                                              clear c76
                                              have H' := Aside0.mk H
                                              clear H
                                              have p251 : 0 ≤ (x11_3 : Int) := of_decide_eq_true (by first | (with_reducible assumption) | assumption)
                                              have q251 : x11_3 < (t219.length : Int) := of_decide_eq_true (by first | (with_reducible assumption) | assumption)
                                              obtain ⟨ad251, e251, hx251_0⟩ := Kd.at_int (Kd.R_reads' HO_5.out).2.2 x11_3 p251 q251
                                              obtain rfl : ad239 = ad251 := (by injection e251)
                                              replace p251 := eq_true p251
                                              replace q251 := eq_true q251
                                              have p255 : 0 ≤ (x11_3 : Int) := of_decide_eq_true (by first | (with_reducible assumption) | assumption)
                                              have q255 : x11_3 < (t219.length : Int) := of_decide_eq_true (by first | (with_reducible assumption) | assumption)
                                              obtain ⟨ad255, e255, hx255_0⟩ := Kd.at_int (Kd.R_reads' HO_5.out).2.2 x11_3 p255 q255
                                              obtain rfl : ad239 = ad255 := (by injection e255)
                                              replace p255 := eq_true p255
                                              replace q255 := eq_true q255
                                              obtain ⟨Ao77, co77, eo77⟩ := Kd.R_slice HO_9.out
                                              subst eo77
                                              have p256 : 0 ≤ (x11_3 : Int) := of_decide_eq_true (by first | (with_reducible assumption) | assumption)
                                              have q256 : x11_3 < (t231.length : Int) := of_decide_eq_true (by first | (with_reducible assumption) | assumption)
                                              obtain ⟨ad256, e256, hx256_0⟩ := Kd.at_int (Kd.R_reads' HO_9.out).2.2 x11_3 p256 q256
                                              cases e256
                                              replace p256 := eq_true p256
                                              replace q256 := eq_true q256
                                              have p257 : 0 ≤ (x11_3 : Int) := of_decide_eq_true (by first | (with_reducible assumption) | assumption)
                                              have q257 : x11_3 < (t219.length : Int) := of_decide_eq_true (by first | (with_reducible assumption) | assumption)
                                              obtain ⟨ad257, e257, hx257_0⟩ := Kd.at_int (Kd.R_reads' HO_5.out).2.2 x11_3 p257 q257
                                              obtain rfl : ad239 = ad257 := (by injection e257)
                                              replace p257 := eq_true p257
                                              replace q257 := eq_true q257
                                              have p258 : 0 ≤ (x11_3 : Int) := of_decide_eq_true (by first | (with_reducible assumption) | assumption)
                                              have q258 : x11_3 < (t231.length : Int) := of_decide_eq_true (by first | (with_reducible assumption) | assumption)
                                              obtain ⟨ad258, e258, hx258_0⟩ := Kd.at_int (Kd.R_reads' HO_9.out).2.2 x11_3 p258 q258
                                              obtain rfl : ad256 = ad258 := (by injection e258)
                                              replace p258 := eq_true p258
                                              replace q258 := eq_true q258
                                              go_wp2
                                              repeat (go_quiet (fail); try go_wp2)
                                              go_roundg kj37
                                              case measure => have := HJ4.out; have := HJ16.out; have := HK3.out; have := HJ37.out; omega
                                              case rel => exact ⟨(wrap64 (x11_3 + 1)), (by first | rfl | (simp; done) | (simp [*]; done)), H', ⟨by have := HJ4.out; have := HJ16.out; have := HK3.out; have := HJ37.out; omega⟩, ⟨by (with_reducible repeat (first | apply Kd.R_alloc | apply Kd.R_drewN | apply Kd.R_drew)); exact HO_5.out⟩, ⟨by (with_reducible repeat (first | apply Kd.R_alloc | apply Kd.R_drewN | apply Kd.R_drew)); exact HO_9.out⟩, ⟨by (with_reducible repeat (first | refine blk_drewN ?_ _ | refine blk_drew ?_ | refine blk_alloc ?_ _)); exact BK215.out⟩, ⟨by repeat (first | (with_reducible first | exact HB.out | apply below_alloc | apply pw_below_drewN | apply below_drew1 | refine below_set ?_ GE215.out) | exact HB.out)⟩⟩
                                            · rw [if_neg c76] at H
                                              have c76b0 : ((Int.tmod (rd t231 x11_3) 2) == 1) = false := beq_eq_false_iff_ne.mpr c76
                                              have c76b1 : ((Int.tmod (rd t231 x11_3) 2) != 1) = true := bne_iff_ne.mpr c76
                                              exact af_absurd HRT.out H (by repeat (first | exact AF.none | exact AF.false | refine AF.ite ?_ ?_ | refine AF.bind (fun _ => ?_)))
                                          · rw [if_neg c75] at H
                                            have c75b0 : ((rd t219 x11_3) == 1) = false := beq_eq_false_iff_ne.mpr c75
                                            have c75b1 : ((rd t219 x11_3) != 1) = true := bne_iff_ne.mpr c75
                                            have H' := Aside0.mk H
                                            clear H
                                            have p251 : 0 ≤ (x11_3 : Int) := of_decide_eq_true (by first | (with_reducible assumption) | assumption)
                                            have q251 : x11_3 < (t219.length : Int) := of_decide_eq_true (by first | (with_reducible assumption) | assumption)
                                            obtain ⟨ad251, e251, hx251_0⟩ := Kd.at_int (Kd.R_reads' HO_5.out).2.2 x11_3 p251 q251
                                            obtain rfl : ad239 = ad251 := (by injection e251)
                                            replace p251 := eq_true p251
                                            replace q251 := eq_true q251
                                            have p255 : 0 ≤ (x11_3 : Int) := of_decide_eq_true (by first | (with_reducible assumption) | assumption)
                                            have q255 : x11_3 < (t219.length : Int) := of_decide_eq_true (by first | (with_reducible assumption) | assumption)
                                            obtain ⟨ad255, e255, hx255_0⟩ := Kd.at_int (Kd.R_reads' HO_5.out).2.2 x11_3 p255 q255
                                            obtain rfl : ad239 = ad255 := (by injection e255)
                                            replace p255 := eq_true p255
                                            replace q255 := eq_true q255
                                            obtain ⟨Ao78, co78, eo78⟩ := Kd.R_slice HO_9.out
                                            subst eo78
                                            have p256 : 0 ≤ (x11_3 : Int) := of_decide_eq_true (by first | (with_reducible assumption) | assumption)
                                            have q256 : x11_3 < (t231.length : Int) := of_decide_eq_true (by first | (with_reducible assumption) | assumption)
                                            obtain ⟨ad256, e256, hx256_0⟩ := Kd.at_int (Kd.R_reads' HO_9.out).2.2 x11_3 p256 q256
                                            cases e256
                                            replace p256 := eq_true p256
                                            replace q256 := eq_true q256
                                            have p257 : 0 ≤ (x11_3 : Int) := of_decide_eq_true (by first | (with_reducible assumption) | assumption)
                                            have q257 : x11_3 < (t219.length : Int) := of_decide_eq_true (by first | (with_reducible assumption) | assumption)
                                            obtain ⟨ad257, e257, hx257_0⟩ := Kd.at_int (Kd.R_reads' HO_5.out).2.2 x11_3 p257 q257
                                            obtain rfl : ad239 = ad257 := (by injection e257)
                                            replace p257 := eq_true p257
                                            replace q257 := eq_true q257
                                            go_wp2
                                            repeat (go_quiet (fail); try go_wp2)
                                            go_roundg kj37
                                            case measure => have := HJ4.out; have := HJ16.out; have := HK3.out; have := HJ37.out; omega
                                            case rel => exact ⟨(wrap64 (x11_3 + 1)), (by first | rfl | (simp; done) | (simp [*]; done)), H', ⟨by have := HJ4.out; have := HJ16.out; have := HK3.out; have := HJ37.out; omega⟩, ⟨by (with_reducible repeat (first | apply Kd.R_alloc | apply Kd.R_drewN | apply Kd.R_drew)); exact HO_5.out⟩, ⟨by (with_reducible repeat (first | apply Kd.R_alloc | apply Kd.R_drewN | apply Kd.R_drew)); exact HO_9.out⟩, ⟨by (with_reducible repeat (first | refine blk_drewN ?_ _ | refine blk_drew ?_ | refine blk_alloc ?_ _)); exact BK215.out⟩, ⟨by repeat (first | (with_reducible first | exact HB.out | apply below_alloc | apply pw_below_drewN | apply below_drew1 | refine below_set ?_ GE215.out) | exact HB.out)⟩⟩
                                        · rw [if_neg c74] at H
                                          have c74b0 : ((Int.tmod (rd t231 x11_3) 2) == 0) = false := beq_eq_false_iff_ne.mpr c74
                                          have c74b1 : ((Int.tmod (rd t231 x11_3) 2) != 0) = true := bne_iff_ne.mpr c74
                                          exact af_absurd HRT.out H (by repeat (first | exact AF.none | exact AF.false | refine AF.ite ?_ ?_ | refine AF.bind (fun _ => ?_)))
                                      · rw [if_neg c73] at H
                                        exact absurd H (by simp)
                                    · as_aux_lemma =>
                                      rw [if_neg c72] at H
                                      have c72b0 : ((rd t219 x11_3) == 3) = false := beq_eq_false_iff_ne.mpr c72
                                      have c72b1 : ((rd t219 x11_3) != 3) = true := bne_iff_ne.mpr c72
                                      by_cases c79 : (rd t219 x11_3) = 6
                                      · as_aux_lemma =>
                                        rw [if_pos c79] at H
                                        have c79b0 : ((rd t219 x11_3) == 6) = true := beq_iff_eq.mpr c79
                                        have c79b1 : ((rd t219 x11_3) != 6) = false := bne_eq_false_iff_eq.mpr c79
                                        clear c79
                                        by_cases c80 : x11_3 < (t231.length : Int)
                                        · rw [if_pos c80] at H
                                          have c80b0 : decide (x11_3 < (t231.length : Int)) = true := decide_eq_true c80
                                          clear c80
                                          by_cases c81 : (Int.tmod (rd t231 x11_3) 2) = 0
                                          · rw [if_pos c81] at H
                                            have c81b0 : ((Int.tmod (rd t231 x11_3) 2) == 0) = true := beq_iff_eq.mpr c81
                                            have c81b1 : ((Int.tmod (rd t231 x11_3) 2) != 0) = false := bne_eq_false_iff_eq.mpr c81
                                            clear c81
                                            by_cases c82 : (rd t219 x11_3) = 1
                                            · rw [if_pos c82] at H
                                              have c82b0 : ((rd t219 x11_3) == 1) = true := beq_iff_eq.mpr c82
                                              have c82b1 : ((rd t219 x11_3) != 1) = false := bne_eq_false_iff_eq.mpr c82
                                              clear c82
                                              by_cases c83 : (Int.tmod (rd t231 x11_3) 2) = 1
                                              · rw [if_pos c83] at H
                                                have c83b0 : ((Int.tmod (rd t231 x11_3) 2) == 1) = true := beq_iff_eq.mpr c83
                                                have c83b1 : ((Int.tmod (rd t231 x11_3) 2) != 1) = false := bne_eq_false_iff_eq.mpr c83
                                                clear c83
                                                have H' := Aside0.mk H
                                                clear H
                                                have p251 : 0 ≤ (x11_3 : Int) := of_decide_eq_true (by first | (with_reducible assumption) | assumption)
                                                have q251 : x11_3 < (t219.length : Int) := of_decide_eq_true (by first | (with_reducible assumption) | assumption)
                                                obtain ⟨ad251, e251, hx251_0⟩ := Kd.at_int (Kd.R_reads' HO_5.out).2.2 x11_3 p251 q251
                                                obtain rfl : ad239 = ad251 := (by injection e251)
                                                replace p251 := eq_true p251
                                                replace q251 := eq_true q251
                                                have p255 : 0 ≤ (x11_3 : Int) := of_decide_eq_true (by first | (with_reducible assumption) | assumption)
                                                have q255 : x11_3 < (t219.length : Int) := of_decide_eq_true (by first | (with_reducible assumption) | assumption)
                                                obtain ⟨ad255, e255, hx255_0⟩ := Kd.at_int (Kd.R_reads' HO_5.out).2.2 x11_3 p255 q255
                                                obtain rfl : ad239 = ad255 := (by injection e255)
                                                replace p255 := eq_true p255
                                                replace q255 := eq_true q255
                                                have p259 : 0 ≤ (x11_3 : Int) := of_decide_eq_true (by first | (with_reducible assumption) | assumption)
                                                have q259 : x11_3 < (t219.length : Int) := of_decide_eq_true (by first | (with_reducible assumption) | assumption)
                                                obtain ⟨ad259, e259, hx259_0⟩ := Kd.at_int (Kd.R_reads' HO_5.out).2.2 x11_3 p259 q259
                                                obtain rfl : ad239 = ad259 := (by injection e259)
                                                replace p259 := eq_true p259
                                                replace q259 := eq_true q259
                                                obtain ⟨Ao84, co84, eo84⟩ := Kd.R_slice HO_9.out
                                                subst eo84
                                                have p260 : 0 ≤ (x11_3 : Int) := of_decide_eq_true (by first | (with_reducible assumption) | assumption)
                                                have q260 : x11_3 < (t231.length : Int) := of_decide_eq_true (by first | (with_reducible assumption) | assumption)
                                                obtain ⟨ad260, e260, hx260_0⟩ := Kd.at_int (Kd.R_reads' HO_9.out).2.2 x11_3 p260 q260
                                                cases e260
                                                replace p260 := eq_true p260
                                                replace q260 := eq_true q260
                                                have p261 : 0 ≤ (x11_3 : Int) := of_decide_eq_true (by first | (with_reducible assumption) | assumption)
                                                have q261 : x11_3 < (t219.length : Int) := of_decide_eq_true (by first | (with_reducible assumption) | assumption)
                                                obtain ⟨ad261, e261, hx261_0⟩ := Kd.at_int (Kd.R_reads' HO_5.out).2.2 x11_3 p261 q261
                                                obtain rfl : ad239 = ad261 := (by injection e261)
                                                replace p261 := eq_true p261
                                                replace q261 := eq_true q261
                                                have p262 : 0 ≤ (x11_3 : Int) := of_decide_eq_true (by first | (with_reducible assumption) | assumption)
                                                have q262 : x11_3 < (t231.length : Int) := of_decide_eq_true (by first | (with_reducible assumption) | assumption)
                                                obtain ⟨ad262, e262, hx262_0⟩ := Kd.at_int (Kd.R_reads' HO_9.out).2.2 x11_3 p262 q262
                                                obtain rfl : ad260 = ad262 := (by injection e262)
                                                replace p262 := eq_true p262
                                                replace q262 := eq_true q262
                                                go_wp2
                                                repeat (go_quiet (fail); try go_wp2)
                                                go_roundg kj37
                                                case measure => have := HJ4.out; have := HJ16.out; have := HK3.out; have := HJ37.out; omega
                                                case rel => exact ⟨(wrap64 (x11_3 + 1)), (by first | rfl | (simp; done) | (simp [*]; done)), H', ⟨by have := HJ4.out; have := HJ16.out; have := HK3.out; have := HJ37.out; omega⟩, ⟨by (with_reducible repeat (first | apply Kd.R_alloc | apply Kd.R_drewN | apply Kd.R_drew)); exact HO_5.out⟩, ⟨by (with_reducible repeat (first | apply Kd.R_alloc | apply Kd.R_drewN | apply Kd.R_drew)); exact HO_9.out⟩, ⟨by (with_reducible repeat (first | refine blk_drewN ?_ _ | refine blk_drew ?_ | refine blk_alloc ?_ _)); exact BK215.out⟩, ⟨by repeat (first | (with_reducible first | exact HB.out | apply below_alloc | apply pw_below_drewN | apply below_drew1 | refine below_set ?_ GE215.out) | exact HB.out)⟩⟩
                                              · rw [if_neg c83] at H
                                                have c83b0 : ((Int.tmod (rd t231 x11_3) 2) == 1) = false := beq_eq_false_iff_ne.mpr c83
                                                have c83b1 : ((Int.tmod (rd t231 x11_3) 2) != 1) = true := bne_iff_ne.mpr c83
                                                exact af_absurd HRT.out H (by repeat (first | exact AF.none | exact AF.false | refine AF.ite ?_ ?_ | refine AF.bind (fun _ => ?_)))
                                            · rw [if_neg c82] at H
                                              have c82b0 : ((rd t219 x11_3) == 1) = false := beq_eq_false_iff_ne.mpr c82
                                              have c82b1 : ((rd t219 x11_3) != 1) = true := bne_iff_ne.mpr c82
                                              have H' := Aside0.mk H
                                              clear H
                                              have p251 : 0 ≤ (x11_3 : Int) := of_decide_eq_true (by first | (with_reducible assumption) | assumption)
                                              have q251 : x11_3 < (t219.length : Int) := of_decide_eq_true (by first | (with_reducible assumption) | assumption)
                                              obtain ⟨ad251, e251, hx251_0⟩ := Kd.at_int (Kd.R_reads' HO_5.out).2.2 x11_3 p251 q251
                                              obtain rfl : ad239 = ad251 := (by injection e251)
                                              replace p251 := eq_true p251
                                              replace q251 := eq_true q251
                                              have p255 : 0 ≤ (x11_3 : Int) := of_decide_eq_true (by first | (with_reducible assumption) | assumption)
                                              have q255 : x11_3 < (t219.length : Int) := of_decide_eq_true (by first | (with_reducible assumption) | assumption)
                                              obtain ⟨ad255, e255, hx255_0⟩ := Kd.at_int (Kd.R_reads' HO_5.out).2.2 x11_3 p255 q255
                                              obtain rfl : ad239 = ad255 := (by injection e255)
                                              replace p255 := eq_true p255
                                              replace q255 := eq_true q255
                                              have p259 : 0 ≤ (x11_3 : Int) := of_decide_eq_true (by first | (with_reducible assumption) | assumption)
                                              have q259 : x11_3 < (t219.length : Int) := of_decide_eq_true (by first | (with_reducible assumption) | assumption)
                                              obtain ⟨ad259, e259, hx259_0⟩ := Kd.at_int (Kd.R_reads' HO_5.out).2.2 x11_3 p259 q259
                                              obtain rfl : ad239 = ad259 := (by injection e259)
                                              replace p259 := eq_true p259
                                              replace q259 := eq_true q259
                                              obtain ⟨Ao85, co85, eo85⟩ := Kd.R_slice HO_9.out
                                              subst eo85
                                              have p260 : 0 ≤ (x11_3 : Int) := of_decide_eq_true (by first | (with_reducible assumption) | assumption)
                                              have q260 : x11_3 < (t231.length : Int) := of_decide_eq_true (by first | (with_reducible assumption) | assumption)
                                              obtain ⟨ad260, e260, hx260_0⟩ := Kd.at_int (Kd.R_reads' HO_9.out).2.2 x11_3 p260 q260
                                              cases e260
                                              replace p260 := eq_true p260
                                              replace q260 := eq_true q260
                                              have p261 : 0 ≤ (x11_3 : Int) := of_decide_eq_true (by first | (with_reducible assumption) | assumption)
                                              have q261 : x11_3 < (t219.length : Int) := of_decide_eq_true (by first | (with_reducible assumption) | assumption)
                                              obtain ⟨ad261, e261, hx261_0⟩ := Kd.at_int (Kd.R_reads' HO_5.out).2.2 x11_3 p261 q261
                                              obtain rfl : ad239 = ad261 := (by injection e261)
                                              replace p261 := eq_true p261
                                              replace q261 := eq_true q261
                                              go_wp2
                                              repeat (go_quiet (fail); try go_wp2)
                                              go_roundg kj37
                                              case measure => have := HJ4.out; have := HJ16.out; have := HK3.out; have := HJ37.out; omega
                                              case rel => exact ⟨(wrap64 (x11_3 + 1)), (by first | rfl | (simp; done) | (simp [*]; done)), H', ⟨by have := HJ4.out; have := HJ16.out; have := HK3.out; have := HJ37.out; omega⟩, ⟨by (with_reducible repeat (first | apply Kd.R_alloc | apply Kd.R_drewN | apply Kd.R_drew)); exact HO_5.out⟩, ⟨by (with_reducible repeat (first | apply Kd.R_alloc | apply Kd.R_drewN | apply Kd.R_drew)); exact HO_9.out⟩, ⟨by (with_reducible repeat (first | refine blk_drewN ?_ _ | refine blk_drew ?_ | refine blk_alloc ?_ _)); exact BK215.out⟩, ⟨by repeat (first | (with_reducible first | exact HB.out | apply below_alloc | apply pw_below_drewN | apply below_drew1 | refine below_set ?_ GE215.out) | exact HB.out)⟩⟩
                                          · rw [if_neg c81] at H
                                            have c81b0 : ((Int.tmod (rd t231 x11_3) 2) == 0) = false := beq_eq_false_iff_ne.mpr c81
                                            have c81b1 : ((Int.tmod (rd t231 x11_3) 2) != 0) = true := bne_iff_ne.mpr c81
                                            exact af_absurd HRT.out H (by repeat (first | exact AF.none | exact AF.false | refine AF.ite ?_ ?_ | refine AF.bind (fun _ => ?_)))
                                        · rw [if_neg c80] at H
                                          exact absurd H (by simp)
                                      · as_aux_lemma =>
                                        rw [if_neg c79] at H
                                        have c79b0 : ((rd t219 x11_3) == 6) = false := beq_eq_false_iff_ne.mpr c79
                                        have c79b1 : ((rd t219 x11_3) != 6) = true := bne_iff_ne.mpr c79
                                        by_cases c86 : (rd t219 x11_3) = 1
                                        · as_aux_lemma =>
                                          rw [if_pos c86] at H
                                          have c86b0 : ((rd t219 x11_3) == 1) = true := beq_iff_eq.mpr c86
                                          have c86b1 : ((rd t219 x11_3) != 1) = false := bne_eq_false_iff_eq.mpr c86
                                          clear c86
                                          by_cases c87 : x11_3 < (t231.length : Int)
                                          · rw [if_pos c87] at H
                                            have c87b0 : decide (x11_3 < (t231.length : Int)) = true := decide_eq_true c87
                                            clear c87
                                            by_cases c88 : (Int.tmod (rd t231 x11_3) 2) = 1
                                            · rw [if_pos c88] at H
                                              have c88b0 : ((Int.tmod (rd t231 x11_3) 2) == 1) = true := beq_iff_eq.mpr c88
                                              have c88b1 : ((Int.tmod (rd t231 x11_3) 2) != 1) = false := bne_eq_false_iff_eq.mpr c88
                                              clear c88
                                              have H' := Aside0.mk H
                                              clear H
                                              have p251 : 0 ≤ (x11_3 : Int) := of_decide_eq_true (by first | (with_reducible assumption) | assumption)
                                              have q251 : x11_3 < (t219.length : Int) := of_decide_eq_true (by first | (with_reducible assumption) | assumption)
                                              obtain ⟨ad251, e251, hx251_0⟩ := Kd.at_int (Kd.R_reads' HO_5.out).2.2 x11_3 p251 q251
                                              obtain rfl : ad239 = ad251 := (by injection e251)
                                              replace p251 := eq_true p251
                                              replace q251 := eq_true q251
                                              have p255 : 0 ≤ (x11_3 : Int) := of_decide_eq_true (by first | (with_reducible assumption) | assumption)
                                              have q255 : x11_3 < (t219.length : Int) := of_decide_eq_true (by first | (with_reducible assumption) | assumption)
                                              obtain ⟨ad255, e255, hx255_0⟩ := Kd.at_int (Kd.R_reads' HO_5.out).2.2 x11_3 p255 q255
                                              obtain rfl : ad239 = ad255 := (by injection e255)
                                              replace p255 := eq_true p255
                                              replace q255 := eq_true q255
                                              have p259 : 0 ≤ (x11_3 : Int) := of_decide_eq_true (by first | (with_reducible assumption) | assumption)
                                              have q259 : x11_3 < (t219.length : Int) := of_decide_eq_true (by first | (with_reducible assumption) | assumption)
                                              obtain ⟨ad259, e259, hx259_0⟩ := Kd.at_int (Kd.R_reads' HO_5.out).2.2 x11_3 p259 q259
                                              obtain rfl : ad239 = ad259 := (by injection e259)
                                              replace p259 := eq_true p259
                                              replace q259 := eq_true q259
                                              have p263 : 0 ≤ (x11_3 : Int) := of_decide_eq_true (by first | (with_reducible assumption) | assumption)
                                              have q263 : x11_3 < (t219.length : Int) := of_decide_eq_true (by first | (with_reducible assumption) | assumption)
                                              obtain ⟨ad263, e263, hx263_0⟩ := Kd.at_int (Kd.R_reads' HO_5.out).2.2 x11_3 p263 q263
                                              obtain rfl : ad239 = ad263 := (by injection e263)
                                              replace p263 := eq_true p263
                                              replace q263 := eq_true q263
                                              obtain ⟨Ao89, co89, eo89⟩ := Kd.R_slice HO_9.out
                                              subst eo89
                                              have p264 : 0 ≤ (x11_3 : Int) := of_decide_eq_true (by first | (with_reducible assumption) | assumption)
                                              have q264 : x11_3 < (t231.length : Int) := of_decide_eq_true (by first | (with_reducible assumption) | assumption)
                                              obtain ⟨ad264, e264, hx264_0⟩ := Kd.at_int (Kd.R_reads' HO_9.out).2.2 x11_3 p264 q264
                                              cases e264
                                              replace p264 := eq_true p264
                                              replace q264 := eq_true q264
                                              go_wp2
                                              repeat (go_quiet (fail); try go_wp2)
                                              go_roundg kj37
                                              case measure => have := HJ4.out; have := HJ16.out; have := HK3.out; have := HJ37.out; omega
                                              case rel => exact ⟨(wrap64 (x11_3 + 1)), (by first | rfl | (simp; done) | (simp [*]; done)), H', ⟨by have := HJ4.out; have := HJ16.out; have := HK3.out; have := HJ37.out; omega⟩, ⟨by (with_reducible repeat (first | apply Kd.R_alloc | apply Kd.R_drewN | apply Kd.R_drew)); exact HO_5.out⟩, ⟨by (with_reducible repeat (first | apply Kd.R_alloc | apply Kd.R_drewN | apply Kd.R_drew)); exact HO_9.out⟩, ⟨by (with_reducible repeat (first | refine blk_drewN ?_ _ | refine blk_drew ?_ | refine blk_alloc ?_ _)); exact BK215.out⟩, ⟨by repeat (first | (with_reducible first | exact HB.out | apply below_alloc | apply pw_below_drewN | apply below_drew1 | refine below_set ?_ GE215.out) | exact HB.out)⟩⟩
                                            · rw [if_neg c88] at H
                                              have c88b0 : ((Int.tmod (rd t231 x11_3) 2) == 1) = false := beq_eq_false_iff_ne.mpr c88
                                              have c88b1 : ((Int.tmod (rd t231 x11_3) 2) != 1) = true := bne_iff_ne.mpr c88
                                              exact af_absurd HRT.out H (by repeat (first | exact AF.none | exact AF.false | refine AF.ite ?_ ?_ | refine AF.bind (fun _ => ?_)))
                                          · rw [if_neg c87] at H
                                            exact absurd H (by simp)
                                        · as_aux_lemma =>
                                          rw [if_neg c86] at H
                                          have c86b0 : ((rd t219 x11_3) == 1) = false := beq_eq_false_iff_ne.mpr c86
                                          have c86b1 : ((rd t219 x11_3) != 1) = true := bne_iff_ne.mpr c86
                                          have H' := Aside0.mk H
                                          clear H
                                          have p251 : 0 ≤ (x11_3 : Int) := of_decide_eq_true (by first | (with_reducible assumption) | assumption)
                                          have q251 : x11_3 < (t219.length : Int) := of_decide_eq_true (by first | (with_reducible assumption) | assumption)
                                          obtain ⟨ad251, e251, hx251_0⟩ := Kd.at_int (Kd.R_reads' HO_5.out).2.2 x11_3 p251 q251
                                          obtain rfl : ad239 = ad251 := (by injection e251)
                                          replace p251 := eq_true p251
                                          replace q251 := eq_true q251
                                          have p255 : 0 ≤ (x11_3 : Int) := of_decide_eq_true (by first | (with_reducible assumption) | assumption)
                                          have q255 : x11_3 < (t219.length : Int) := of_decide_eq_true (by first | (with_reducible assumption) | assumption)
                                          obtain ⟨ad255, e255, hx255_0⟩ := Kd.at_int (Kd.R_reads' HO_5.out).2.2 x11_3 p255 q255
                                          obtain rfl : ad239 = ad255 := (by injection e255)
                                          replace p255 := eq_true p255
                                          replace q255 := eq_true q255
                                          have p259 : 0 ≤ (x11_3 : Int) := of_decide_eq_true (by first | (with_reducible assumption) | assumption)
                                          have q259 : x11_3 < (t219.length : Int) := of_decide_eq_true (by first | (with_reducible assumption) | assumption)
                                          obtain ⟨ad259, e259, hx259_0⟩ := Kd.at_int (Kd.R_reads' HO_5.out).2.2 x11_3 p259 q259
                                          obtain rfl : ad239 = ad259 := (by injection e259)
                                          replace p259 := eq_true p259
                                          replace q259 := eq_true q259
                                          have p263 : 0 ≤ (x11_3 : Int) := of_decide_eq_true (by first | (with_reducible assumption) | assumption)
                                          have q263 : x11_3 < (t219.length : Int) := of_decide_eq_true (by first | (with_reducible assumption) | assumption)
                                          obtain ⟨ad263, e263, hx263_0⟩ := Kd.at_int (Kd.R_reads' HO_5.out).2.2 x11_3 p263 q263
                                          obtain rfl : ad239 = ad263 := (by injection e263)
                                          replace p263 := eq_true p263
                                          replace q263 := eq_true q263
                                          go_wp2
                                          repeat (go_quiet (fail); try go_wp2)
                                          go_roundg kj37
                                          case measure => have := HJ4.out; have := HJ16.out; have := HK3.out; have := HJ37.out; omega
                                          case rel => exact ⟨(wrap64 (x11_3 + 1)), (by first | rfl | (simp; done) | (simp [*]; done)), H', ⟨by have := HJ4.out; have := HJ16.out; have := HK3.out; have := HJ37.out; omega⟩, ⟨by (with_reducible repeat (first | apply Kd.R_alloc | apply Kd.R_drewN | apply Kd.R_drew)); exact HO_5.out⟩, ⟨by (with_reducible repeat (first | apply Kd.R_alloc | apply Kd.R_drewN | apply Kd.R_drew)); exact HO_9.out⟩, ⟨by (with_reducible repeat (first | refine blk_drewN ?_ _ | refine blk_drew ?_ | refine blk_alloc ?_ _)); exact BK215.out⟩, ⟨by repeat (first | (with_reducible first | exact HB.out | apply below_alloc | apply pw_below_drewN | apply below_drew1 | refine below_set ?_ GE215.out) | exact HB.out)⟩⟩
                                · rw [if_neg c64] at H
                                  exact absurd H (by simp)
                              · rw [if_neg c63] at H
                                exact absurd H (by simp)
                      · rw [if_neg c36] at H
                        exact absurd H (by simp)
                    · rw [if_neg c34] at H
                      exact absurd H (by simp)
                  · rw [if_neg c33] at H
                    have c33b0 : decide (x11_3 < (l0.length : Int)) = false := decide_eq_false c33
                    clear c33
                    replace H := Option.bind_eq_some_iff.mp H
                    obtain ⟨t236, A900, H⟩ := H
                    replace H : (some t236) = some r := H
                    have A90 := Aside0.mk A900
                    clear A900
                    obtain rfl := Option.some.inj H
                    go_wp2_with (first | (go_at_call 7; (with_reducible refine (frisketlaw12_alive.calls k3  t236 _ A90.out).mono ?_); rintro e w91 ⟨rfl, hb⟩; have n0_ := Aside0.mk (Kd.R_below (by (with_reducible repeat (first | apply Kd.R_alloc | apply Kd.R_drewN | apply Kd.R_drew)); exact HO_5.out) hb); have n1_ := Aside0.mk (Kd.R_below (by (with_reducible repeat (first | apply Kd.R_alloc | apply Kd.R_drewN | apply Kd.R_drew)); exact HO_9.out) hb); have n2_ := Aside0.mk (blk_below (g := gb215) (o := .cells #[.int .i64 a1_0, .int .i64 a1_1, .int .i64 a1_2] 25 (0, 0)) (by (with_reducible repeat (first | refine blk_drewN ?_ _ | refine blk_drew ?_ | refine blk_alloc ?_ _)); exact BK215.out) hb); have n3_ := Aside0.mk (below_step (by repeat (first | (with_reducible first | exact HB.out | apply below_alloc | apply pw_below_drewN | apply below_drew1 | refine below_set ?_ GE215.out) | exact HB.out)) hb); clear HO_5; clear HO_9; clear BK215; clear HB; have HO_5 := n0_; have HO_9 := n1_; have BK215 := n2_; have HB := n3_; clear n0_ n1_ n2_ n3_; (try clear hb); (try clear hb2); (try clear hk); (try clear hi)))
                    repeat (go_quiet (first | (go_at_call 7; (with_reducible refine (frisketlaw12_alive.calls k3  t236 _ A90.out).mono ?_); rintro e w91 ⟨rfl, hb⟩; have n0_ := Aside0.mk (Kd.R_below (by (with_reducible repeat (first | apply Kd.R_alloc | apply Kd.R_drewN | apply Kd.R_drew)); exact HO_5.out) hb); have n1_ := Aside0.mk (Kd.R_below (by (with_reducible repeat (first | apply Kd.R_alloc | apply Kd.R_drewN | apply Kd.R_drew)); exact HO_9.out) hb); have n2_ := Aside0.mk (blk_below (g := gb215) (o := .cells #[.int .i64 a1_0, .int .i64 a1_1, .int .i64 a1_2] 25 (0, 0)) (by (with_reducible repeat (first | refine blk_drewN ?_ _ | refine blk_drew ?_ | refine blk_alloc ?_ _)); exact BK215.out) hb); have n3_ := Aside0.mk (below_step (by repeat (first | (with_reducible first | exact HB.out | apply below_alloc | apply pw_below_drewN | apply below_drew1 | refine below_set ?_ GE215.out) | exact HB.out)) hb); clear HO_5; clear HO_9; clear BK215; clear HB; have HO_5 := n0_; have HO_9 := n1_; have BK215 := n2_; have HB := n3_; clear n0_ n1_ n2_ n3_; (try clear hb); (try clear hb2); (try clear hk); (try clear hi))); try go_wp2_with (first | (go_at_call 7; (with_reducible refine (frisketlaw12_alive.calls k3  t236 _ A90.out).mono ?_); rintro e w91 ⟨rfl, hb⟩; have n0_ := Aside0.mk (Kd.R_below (by (with_reducible repeat (first | apply Kd.R_alloc | apply Kd.R_drewN | apply Kd.R_drew)); exact HO_5.out) hb); have n1_ := Aside0.mk (Kd.R_below (by (with_reducible repeat (first | apply Kd.R_alloc | apply Kd.R_drewN | apply Kd.R_drew)); exact HO_9.out) hb); have n2_ := Aside0.mk (blk_below (g := gb215) (o := .cells #[.int .i64 a1_0, .int .i64 a1_1, .int .i64 a1_2] 25 (0, 0)) (by (with_reducible repeat (first | refine blk_drewN ?_ _ | refine blk_drew ?_ | refine blk_alloc ?_ _)); exact BK215.out) hb); have n3_ := Aside0.mk (below_step (by repeat (first | (with_reducible first | exact HB.out | apply below_alloc | apply pw_below_drewN | apply below_drew1 | refine below_set ?_ GE215.out) | exact HB.out)) hb); clear HO_5; clear HO_9; clear BK215; clear HB; have HO_5 := n0_; have HO_9 := n1_; have BK215 := n2_; have HB := n3_; clear n0_ n1_ n2_ n3_; (try clear hb); (try clear hb2); (try clear hk); (try clear hi))))
                    go_ret
                    exact ⟨by first | rfl | (simp [errW_none, errW_some] <;> rfl) | (simp [*, errW_none, errW_some] <;> rfl), by repeat (first | (with_reducible first | exact HB.out | apply below_alloc | apply pw_below_drewN | apply below_drew1 | refine below_set ?_ GE215.out) | exact HB.out)⟩

end Go.Proofs.Ytplindcfnlonbaa.P
