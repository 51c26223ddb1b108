/- The live question of layer 20: a sheet of 5 by 4. -/
import Derived.Test.YtpljnkfbcgdafaaHTake2
import Derived.Test.YtpljnkfbcgdafaaHArea
import Derived.Test.YtpljnkfbcgdafaaHSort4
namespace Go.Proofs.Ytpljnkfbcgdafaa.P
open Go.RowKit Go.Shelf Go.Proofs.YtpljnkfbcgdafaaW.PrintWords Go.Proofs.YtpljnkfbcgdafaaW.PrintLast Go.Proofs.YtpljnkfbcgdafaaW.PrintMore
set_option linter.unusedVariables false
set_option linter.unusedSimpArgs false

theorem arS_comm (ow : Int) (a : Ar) (x y : Ent) : arS ow (arS ow a x) y = arS ow (arS ow a y) x := by
  unfold arS
  by_cases h1 : x.2 = ow
  · by_cases h2 : y.2 = ow
    · simp only [h1, h2, if_true, Ar.mk.injEq, true_and]
      repeat' constructor
      all_goals (repeat' split) <;> omega
    · simp only [h1, h2, if_true, if_false]
  · by_cases h2 : y.2 = ow
    · simp only [h1, h2, if_true, if_false]
    · simp only [h1, h2, if_false]
theorem ar_perm (ow : Int) {l l' : List Ent} (h : l.Perm l') (a : Ar) : l.foldl (arS ow) a = l'.foldl (arS ow) a :=
  h.foldl_eq' (fun x _ y _ z => arS_comm ow z x y) a
def es4 : List Ent := [((1, 1), 7), ((1, 2), 7), ((2, 1), 7), ((2, 2), 7)]
theorem es4_put : (upC 1 1 2 (2 * 2)).foldl (fun es (c : CellK) => putE es c.1 7) [] = es4 := by decide +kernel
theorem es4_all : ∀ done : List Ent, done.Perm es4 → valsE done = [7, 7, 7, 7] := by
  intro done hp
  have h1 : (valsE done).Perm (valsE es4) := hp.map _
  have h2 : valsE es4 = List.replicate 4 7 := rfl
  rw [h2] at h1
  exact List.perm_replicate.1 h1
theorem es4_val : valE es4 2 1 = 7 ∧ valE es4 3 2 = 0 ∧ valE es4 2 2 = 7 := by decide +kernel
theorem es4_area : arR (es4.foldl (arS 7) ⟨0, 5, 4, 0, 0⟩) = .tuple #[.int .i64 4, .agg #[.int .i64 1, .int .i64 1, .int .i64 2, .int .i64 2]] := by kernel_rfl
theorem grb {w V V' : World} {mb : Nat} (hB : Below w.heap.size w V) (hm : w.heap.size ≤ mb) (hg : V.grownBy V' (some mb)) : Below w.heap.size w V' := hB.grown hg hB.size (fun k e => by cases e; exact hm)
theorem take1 (p mb : Nat) (w : World) (h : Sh w p mb 5 4 []) :
    Calls Try.prog 20 #[.pointer (some ⟨p, 0, none⟩), .agg #[.int .i64 1, .int .i64 1, .int .i64 2, .int .i64 2], .int .i64 7] w fun e w' => e = .returned (.int .i64 0) ∧ Sh w' p mb 5 4 es4 ∧ w.grownBy w' (some mb) := by
  refine (Take_ok.calls p mb 5 4 [] 1 1 2 2 7 w h (by omega) (by omega) (by decide) (by decide) (by omega) (by simp)).mono ?_
  rintro e w' (⟨_, rfl, hs, hg⟩ | ⟨⟨c, _, hc⟩, _⟩)
  · rw [es4_put] at hs
    exact ⟨rfl, hs, hg⟩
  · exact absurd rfl hc
theorem take2 (p mb : Nat) (w : World) (h : Sh w p mb 5 4 es4) :
    Calls Try.prog 20 #[.pointer (some ⟨p, 0, none⟩), .agg #[.int .i64 2, .int .i64 2, .int .i64 2, .int .i64 1], .int .i64 8] w fun e w' => e = .returned (.int .i64 201) ∧ Sh w' p mb 5 4 es4 ∧ w.grownBy w' (some mb) := by
  refine (Take_ok.calls p mb 5 4 es4 2 2 2 1 8 w h (by omega) (by omega) (by decide) (by decide) (by omega) (by decide)).mono ?_
  rintro e w' (⟨hz, _⟩ | ⟨_, rfl, hs, hg⟩)
  · exact absurd (hz (cellAt 2 2 1 0) (List.mem_map.2 ⟨0, by simp, rfl⟩)) (by decide +kernel)
  · exact ⟨rfl, hs, hg⟩
theorem area1 (p mb : Nat) (w : World) (h : Sh w p mb 5 4 es4) :
    Calls Try.prog 11 #[.pointer (some ⟨p, 0, none⟩), .int .i64 7] w fun e w' => e = .returned (.tuple #[.int .i64 4, .agg #[.int .i64 1, .int .i64 1, .int .i64 2, .int .i64 2]]) ∧ Below w.heap.size w w' := by
  refine (Area.calls p mb 5 4 es4 7 w h (by omega) (by decide) (by decide)).mono ?_
  rintro e w' ⟨done, hp, rfl, hb⟩
  rw [ar_perm 7 hp, es4_area]
  exact ⟨rfl, hb⟩
theorem inK_c {x : Int} (h : 0 ≤ x ∧ x ≤ 1000) : inK x := inK_small (by omega)
theorem at1 (p mb : Nat) (w : World) (h : Sh w p mb 5 4 es4) : Calls Try.prog 18 #[.pointer (some ⟨p, 0, none⟩), .int .i64 2, .int .i64 1] w fun e w' => e = .returned (.int .i64 7) ∧ w' = w := by
  have := At.calls p mb 5 4 es4 2 1 w h (inK_c (by omega)) (inK_c (by omega))
  rw [es4_val.1] at this
  exact this
theorem at2 (p mb : Nat) (w : World) (h : Sh w p mb 5 4 es4) : Calls Try.prog 18 #[.pointer (some ⟨p, 0, none⟩), .int .i64 3, .int .i64 2] w fun e w' => e = .returned (.int .i64 0) ∧ w' = w := by
  have := At.calls p mb 5 4 es4 3 2 w h (inK_c (by omega)) (inK_c (by omega))
  rw [es4_val.2.1] at this
  exact this
theorem free1 (p mb : Nat) (w : World) (h : Sh w p mb 5 4 es4) : Calls Try.prog 13 #[.pointer (some ⟨p, 0, none⟩)] w fun e w' => e = .returned (.int .i64 16) ∧ ∃ q, w' = w.drewN q := by
  have := Free.calls p mb 5 4 es4 w h
  rw [show wrap64 (wrap64 (5 * 4) - (es4.length : Int)) = 16 by decide +kernel] at this
  exact this
def frisketlaw20_alive.f : Option Bool := some true
set_option maxHeartbeats 4000000 in
set_option maxRecDepth 100000 in
theorem frisketlaw20_alive.calls (r : Bool) (w : World) (h : frisketlaw20_alive.f = some r) :
    Calls Try.prog 9 #[] w fun e w' => e = .returned (.bool r) ∧ Below w.heap.size w w' := by
  obtain rfl : true = r := Option.some.inj h
  have hu32 := Try.underlying32
  clear h
  go_enter Try.func9, Try.ntmps9
  go_wp2_with (first
    | (go_at_call 7; refine (New.calls 5 4 _ (by decide) (by decide)).mono ?_; rintro e w1 ⟨p, mb, rfl, hs, hp, hm, hb⟩; have HS1 := Aside0.mk hs; have HP := Aside0.mk hp; have HM := Aside0.mk hm; have HB1 := Aside0.mk hb; clear hs hp hm hb)
    | (go_at_call 20; with_reducible refine (take1 p mb _ HS1.out).mono ?_; rintro e w2 ⟨rfl, hs, hg⟩; have HS2 := Aside0.mk hs; have HB2 := Aside0.mk (grb HB1.out HM.out hg); clear hs hg HS1)
    | (go_at_call 20; with_reducible refine (take2 p mb _ HS2.out).mono ?_; rintro e w3 ⟨rfl, hs, hg⟩; have HS3 := Aside0.mk hs; have HB3 := Aside0.mk (grb HB2.out HM.out hg); clear hs hg HS2)
    | (go_at_call 11; refine (area1 p mb _ HS3.out).mono ?_; rintro e w4 ⟨rfl, hb⟩; have HS4 := Aside0.mk (HS3.out.below hb); have HB4 := Aside0.mk (below_step HB3.out hb); have HS5 := Aside0.mk (HS4.out.kept (World.grownBy_alloc w4 (.cells #[.int .i64 1, .int .i64 1, .int .i64 2, .int .i64 2] 32) none) (by simp) (by simp)); clear hb HS3)
    | (go_at_call 18; with_reducible refine (at1 p mb _ HS5.out).mono ?_; rintro e w5 ⟨rfl, rfl⟩)
    | (go_at_call 18; with_reducible refine (at2 p mb _ HS5.out).mono ?_; rintro e w5 ⟨rfl, rfl⟩)
    | (go_at_call 13; refine (free1 p mb _ HS5.out).mono ?_; rintro e w5 ⟨rfl, ⟨q, rfl⟩⟩; have HS6 := Aside0.mk (HS5.out.drewN q))
    | (go_at_call 16; refine (Owners_4.calls p mb 5 4 es4 _ HS6.out (by decide) es4_all).mono ?_; rintro e w6 ⟨⟨A, c, rfl⟩, hb⟩; have HB6 := Aside0.mk (below_step (pw_below_drewN (HB4.out.alloc HB4.out.size _) q) hb); clear hb))
  go_ret
  exact ⟨rfl, HB6.out⟩
end Go.Proofs.Ytpljnkfbcgdafaa.P
