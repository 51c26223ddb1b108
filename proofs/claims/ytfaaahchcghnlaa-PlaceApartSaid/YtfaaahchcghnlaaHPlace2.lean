/- The walk of place.Cells: what it answers, at every page, mode and box; no condition. -/
import Derived.Test.YtfaaahchcghnlaaP13
import Derived.Test.YtfaaahchcghnlaaP12
import Derived.Laws.EntriesVeiled
import Derived.WalkSpells
import Derived.WalkLawsBesides
import Derived.Deep.RegionHeld3
import Derived.Test.YtfaaahchcghnlaaHPlace1
namespace Go.Proofs.Ytfaaahchcghnlaa.P
open Go.RowKit Go.Proofs.YtfaaahchcghnlaaW.PrintWords Go.Proofs.YtfaaahchcghnlaaW.PrintLast
set_option linter.unusedSimpArgs false
set_option linter.unusedVariables false
theorem blk_new1 (w : World) (A B : Obj) : ((w.alloc A).alloc B).heap[w.heap.size + 1]? = some B := by
  have := blk_new (w.alloc A) B
  rwa [World.size_alloc] at this
theorem blk_new2 (w : World) (A B C : Obj) : (((w.alloc A).alloc B).alloc C).heap[w.heap.size + 1 + 1]? = some C := by
  have := blk_new1 (w.alloc A) B C
  rwa [World.size_alloc] at this
theorem drawn_drew {w : World} : Drawn0 w w := Drawn0.refl w
set_option maxHeartbeats 400000 in
theorem plain_any (L C a n : Int) (w : World) : Calls Try.prog 27 #[.agg #[.int .i64 L, .int .i64 C], .int .i64 a, .int .i64 n] w fun e w' => e = .returned (.int .i64 a) ∧ w.alloc (.cells #[.int .i64 L, .int .i64 C] 23) = w' := by
  go_enter Try.func27, Try.ntmps27
  go_wp2
  go_ret
  exact ⟨rfl, rfl⟩
set_option maxHeartbeats 400000 in
theorem forward_any (L C a n : Int) (r : Bool) (w : World) : Calls Try.prog 28 #[.agg #[.int .i64 L, .int .i64 C], .int .i64 a, .int .i64 n, .bool r] w fun e w' => e = .returned (.int .i64 a) ∧ w.alloc (.cells #[.int .i64 L, .int .i64 C] 23) = w' := by
  go_enter Try.func28, Try.ntmps28
  go_wp2
  go_ret
  exact ⟨rfl, rfl⟩
set_option maxHeartbeats 400000 in
theorem back_any (L C a n : Int) (w : World) (h : 0 ≤ a) (h1 : a < L) (h2 : L ≤ 60) (h3 : 1 ≤ n) (h4 : n ≤ L - a) : Calls Try.prog 29 #[.agg #[.int .i64 L, .int .i64 C], .int .i64 a, .int .i64 n] w fun e w' => e = .returned (.int .i64 (L - a - n)) ∧ w.alloc (.cells #[.int .i64 L, .int .i64 C] 23) = w' := by
  go_enter Try.func29, Try.ntmps29
  go_wp2
  go_ret
  exact ⟨rfl, rfl⟩
def trn (r : Bool) (C a n : Int) : Int := if r = true then C - a - n else a
set_option maxHeartbeats 400000 in
theorem turned_any (L C a n : Int) (r : Bool) (w : World) (h : 0 ≤ a) (h1 : a < C) (h2 : C ≤ 60) (h3 : 1 ≤ n) (h4 : n ≤ C - a) : Calls Try.prog 30 #[.agg #[.int .i64 L, .int .i64 C], .int .i64 a, .int .i64 n, .bool r] w fun e w' => e = .returned (.int .i64 (trn r C a n)) ∧ w.alloc (.cells #[.int .i64 L, .int .i64 C] 23) = w' := by
  cases r
  · go_enter Try.func30, Try.ntmps30
    go_wp2
    go_ret
    exact ⟨by simp [trn], rfl⟩
  · go_enter Try.func30, Try.ntmps30
    go_wp2
    go_ret
    exact ⟨by simp [trn], rfl⟩
theorem inside_some (a n all : Int) (h : all ≤ 60) : place_inside.f a n all = some (decide (0 ≤ a ∧ 1 ≤ n ∧ a < all ∧ n ≤ all - a)) := by
  unfold place_inside.f
  by_cases h1 : 0 ≤ a
  · by_cases h2 : 1 ≤ n
    · by_cases h3 : a < all
      · have e : wrap64 (all - a) = all - a := by unfold wrap64; omega
        simp [h1, h2, h3, e]
      · simp [h1, h2, h3]
    · simp [h1, h2]
  · simp [h1]
def FitsB (L C A D G N : Int) : Prop := (0 ≤ A ∧ 1 ≤ D ∧ A < L ∧ D ≤ L - A) ∧ 0 ≤ G ∧ 1 ≤ N ∧ G < C ∧ N ≤ C - G
instance (L C A D G N : Int) : Decidable (FitsB L C A D G N) := by unfold FitsB; infer_instance
theorem fits_some (L C A D G N : Int) (R : Bool) (h : L ≤ 60) (h' : C ≤ 60) : place_fits.f L C A D G N R = some (decide (FitsB L C A D G N)) := by
  unfold place_fits.f FitsB
  rw [inside_some _ _ _ h, inside_some _ _ _ h']
  simp only [Option.bind_some]
  split
  · rename_i h1
    have := of_decide_eq_true h1
    simp [this]
  · rename_i h1
    have : ¬ (0 ≤ A ∧ 1 ≤ D ∧ A < L ∧ D ≤ L - A) := fun h2 => h1 (decide_eq_true h2)
    congr 1
    symm
    exact decide_eq_false (fun h2 => this h2.1)
set_option maxHeartbeats 2000000 in
theorem cells0 (L C A D G N : Int) (R : Bool) (w : World) (hg : Good L C 0) (hf : FitsB L C A D G N) :
    Calls Try.prog 10 #[.agg #[.int .i64 L, .int .i64 C], .int .i64 0, .agg #[.int .i64 A, .int .i64 D, .int .i64 G, .int .i64 N, .bool R]] w fun e w' => e = .returned (.tuple #[.agg #[.int .i64 (G), .int .i64 (A), .int .i64 N, .int .i64 D], .int .i64 0]) ∧ Below w.heap.size w w' := by
  obtain ⟨h1, h2, h3, h4, hm⟩ := hg
  have hgood := fun w => of_good L C 0 w h1 h2 h3 h4 hm
  simp [wayOf] at hgood
  have hfit := fun w => place_fits.calls L C A D G N R true w (by rw [fits_some _ _ _ _ _ _ _ h2 h4, decide_eq_true hf])
  obtain ⟨⟨f1, f2, f3, f4⟩, f5, f6, f7, f8⟩ := hf
  clear hm
  go_enter Try.func10, Try.ntmps10
  go_wp2_with fail
  refine (hgood _).mono ?_
  rintro e w1 ⟨rfl, hb⟩
  clear hgood
  have K0 := Aside0.mk (blk_below (blk_alloc (blk_alloc (blk_new w (.cells #[.int .i64 L, .int .i64 C] 23 (0, 0))) _) _) hb)
  have K1 := Aside0.mk (blk_below (blk_alloc (blk_new1 w _ (.cells #[.int .i64 A, .int .i64 D, .int .i64 G, .int .i64 N, .bool R] 36 (0, 0))) _) hb)
  have K2 := Aside0.mk (blk_below (blk_new2 w _ _ (.cells #[.int .i64 0, .int .i64 0, .int .i64 0, .int .i64 0] 33 (0, 0))) hb)
  have HB := Aside0.mk (below_step (below_alloc (below_alloc (below_alloc (Below.refl _ _) _) _) _) hb)
  have hz := Aside0.mk hb.size
  clear hb
  have hz0 : w.heap.size < w1.heap.size := by have := hz.out; simp at this; omega
  have hz1 : w.heap.size + 1 < w1.heap.size := by have := hz.out; simp at this; omega
  have hz2 : ¬ (w.heap.size = w1.heap.size) := by omega
  have hz3 : ¬ (w.heap.size + 1 = w1.heap.size) := by omega
  have cL : w1.cell? ⟨w.heap.size, 0, none⟩ = some (.int .i64 L) := (blk_cell K0.out 0).trans rfl
  have cC : w1.cell? ⟨w.heap.size, 1, none⟩ = some (.int .i64 C) := (blk_cell K0.out 1).trans rfl
  have cA : w1.cell? ⟨w.heap.size + 1, 0, none⟩ = some (.int .i64 A) := (blk_cell K1.out 0).trans rfl
  have cD : w1.cell? ⟨w.heap.size + 1, 1, none⟩ = some (.int .i64 D) := (blk_cell K1.out 1).trans rfl
  have cG : w1.cell? ⟨w.heap.size + 1, 2, none⟩ = some (.int .i64 G) := (blk_cell K1.out 2).trans rfl
  have cN : w1.cell? ⟨w.heap.size + 1, 3, none⟩ = some (.int .i64 N) := (blk_cell K1.out 3).trans rfl
  have cR : w1.cell? ⟨w.heap.size + 1, 4, none⟩ = some (.bool R) := (blk_cell K1.out 4).trans rfl
  go_wp2_with fail
  refine (hfit _).mono ?_
  rintro e w2 ⟨rfl, hb2⟩
  clear hfit
  have J0 := Aside0.mk (blk_below (blk_alloc K0.out (.cells #[.bool false, .func (.func 27) #[] #[], .func (.func 28) #[] #[]] 53 (0, 0))) hb2)
  have J1 := Aside0.mk (blk_below (blk_alloc K1.out (.cells #[.bool false, .func (.func 27) #[] #[], .func (.func 28) #[] #[]] 53 (0, 0))) hb2)
  have J2 := Aside0.mk (blk_below (blk_alloc K2.out (.cells #[.bool false, .func (.func 27) #[] #[], .func (.func 28) #[] #[]] 53 (0, 0))) hb2)
  have J3 := Aside0.mk (blk_below (blk_new w1 (.cells #[.bool false, .func (.func 27) #[] #[], .func (.func 28) #[] #[]] 53 (0, 0))) hb2)
  have HB2 := Aside0.mk (below_step (below_alloc HB.out _) hb2)
  clear K0 K1 K2 HB hb2 cL cC cA cD cG cN cR hz0 hz1 hz2 hz3
  have dL : w2.cell? ⟨w.heap.size, 0, none⟩ = some (.int .i64 L) := (blk_cell J0.out 0).trans rfl
  have dC : w2.cell? ⟨w.heap.size, 1, none⟩ = some (.int .i64 C) := (blk_cell J0.out 1).trans rfl
  have dA : w2.cell? ⟨w.heap.size + 1, 0, none⟩ = some (.int .i64 A) := (blk_cell J1.out 0).trans rfl
  have dD : w2.cell? ⟨w.heap.size + 1, 1, none⟩ = some (.int .i64 D) := (blk_cell J1.out 1).trans rfl
  have dG : w2.cell? ⟨w.heap.size + 1, 2, none⟩ = some (.int .i64 G) := (blk_cell J1.out 2).trans rfl
  have dN : w2.cell? ⟨w.heap.size + 1, 3, none⟩ = some (.int .i64 N) := (blk_cell J1.out 3).trans rfl
  have dR : w2.cell? ⟨w.heap.size + 1, 4, none⟩ = some (.bool R) := (blk_cell J1.out 4).trans rfl
  have dU : w2.cell? ⟨w1.heap.size, 0, none⟩ = some (.bool false) := (blk_cell J3.out 0).trans rfl
  have dF : w2.cell? ⟨w1.heap.size, 1, none⟩ = some (.func (.func 27) #[] #[]) := (blk_cell J3.out 1).trans rfl
  have dH : w2.cell? ⟨w1.heap.size, 2, none⟩ = some (.func (.func 28) #[] #[]) := (blk_cell J3.out 2).trans rfl
  have hp := fun wx => plain_any L C A D wx
  have hq := fun wx => forward_any L C G N R wx
  go_wp2
  go_region_held3 (fun w' => w'.cell? ⟨w.heap.size, 0, none⟩ = some (.int .i64 L) ∧ w'.cell? ⟨w.heap.size, 1, none⟩ = some (.int .i64 C) ∧ w'.cell? ⟨w.heap.size + 1, 0, none⟩ = some (.int .i64 A) ∧ w'.cell? ⟨w.heap.size + 1, 1, none⟩ = some (.int .i64 D) ∧ w'.cell? ⟨w.heap.size + 1, 2, none⟩ = some (.int .i64 G) ∧ w'.cell? ⟨w.heap.size + 1, 3, none⟩ = some (.int .i64 N) ∧ w'.cell? ⟨w.heap.size + 1, 4, none⟩ = some (.bool R) ∧ w'.cell? ⟨w1.heap.size, 1, none⟩ = some (.func (.func 27) #[] #[]) ∧ w'.cell? ⟨w1.heap.size, 2, none⟩ = some (.func (.func 28) #[] #[]))
    (first | go_keep)
    (first | (go_at_call 27; refine (hp _).mono ?_; rintro e w3 ⟨rfl, rfl⟩) | (go_at_call 28; refine (hq _).mono ?_; rintro e w3 ⟨rfl, rfl⟩))
  obtain ⟨w3, hw3⟩ : ∃ w3, w3 = ((w2.alloc (.cells #[.int .i64 L, .int .i64 C] 23)).alloc (.cells #[.int .i64 L, .int .i64 C] 23)).drew := ⟨_, rfl⟩
  rw [← hw3]
  have M1 := Aside0.mk (hw3 ▸ blk_drew (blk_alloc (blk_alloc J1.out (.cells #[.int .i64 L, .int .i64 C] 23)) (.cells #[.int .i64 L, .int .i64 C] 23)))
  have M2 := Aside0.mk (hw3 ▸ blk_drew (blk_alloc (blk_alloc J2.out (.cells #[.int .i64 L, .int .i64 C] 23)) (.cells #[.int .i64 L, .int .i64 C] 23)))
  have M3 := Aside0.mk (hw3 ▸ blk_drew (blk_alloc (blk_alloc J3.out (.cells #[.int .i64 L, .int .i64 C] 23)) (.cells #[.int .i64 L, .int .i64 C] 23)))
  have HB3 := Aside0.mk (hw3 ▸ below_drew (below_alloc (below_alloc HB2.out (.cells #[.int .i64 L, .int .i64 C] 23)) (.cells #[.int .i64 L, .int .i64 C] 23)))
  clear hw3 J0 J1 J2 J3 HB2 dL dC dA dD dG dN dR dU dF dH hp hq
  have eU : w3.cell? ⟨w1.heap.size, 0, none⟩ = some (.bool false) := (blk_cell M3.out 0).trans rfl
  have eD : w3.cell? ⟨w.heap.size + 1, 1, none⟩ = some (.int .i64 D) := (blk_cell M1.out 1).trans rfl
  have eN : w3.cell? ⟨w.heap.size + 1, 3, none⟩ = some (.int .i64 N) := (blk_cell M1.out 3).trans rfl
  have e0 : w3.cell? ⟨w.heap.size + 1 + 1, 0, none⟩ = some (.int .i64 0) := (blk_cell M2.out 0).trans rfl
  have e1 : w3.cell? ⟨w.heap.size + 1 + 1, 1, none⟩ = some (.int .i64 0) := (blk_cell M2.out 1).trans rfl
  have e2 : w3.cell? ⟨w.heap.size + 1 + 1, 2, none⟩ = some (.int .i64 0) := (blk_cell M2.out 2).trans rfl
  have e3 : w3.cell? ⟨w.heap.size + 1 + 1, 3, none⟩ = some (.int .i64 0) := (blk_cell M2.out 3).trans rfl
  have z0 := blk_frozen M2.out 0
  have z1 := blk_frozen M2.out 1
  have z2 := blk_frozen M2.out 2
  have z3 := blk_frozen M2.out 3
  go_wp2
  refine bodyPost_ret (v := .tuple #[.agg #[.int .i64 (G), .int .i64 (A), .int .i64 N, .int .i64 D], .int .i64 0]) (by simp [results, Try.results10, go_sem, e0, e1, e2, e3]) rfl ⟨rfl, ?_⟩
  repeat (refine below_set ?_ (show _ ≤ _ by omega))
  exact HB3.out
set_option maxHeartbeats 2000000 in
theorem cells1 (L C A D G N : Int) (R : Bool) (w : World) (hg : Good L C 1) (hf : FitsB L C A D G N) :
    Calls Try.prog 10 #[.agg #[.int .i64 L, .int .i64 C], .int .i64 1, .agg #[.int .i64 A, .int .i64 D, .int .i64 G, .int .i64 N, .bool R]] w fun e w' => e = .returned (.tuple #[.agg #[.int .i64 (L - A - D), .int .i64 (G), .int .i64 D, .int .i64 N], .int .i64 0]) ∧ Below w.heap.size w w' := by
  obtain ⟨h1, h2, h3, h4, hm⟩ := hg
  have hgood := fun w => of_good L C 1 w h1 h2 h3 h4 hm
  simp [wayOf] at hgood
  have hfit := fun w => place_fits.calls L C A D G N R true w (by rw [fits_some _ _ _ _ _ _ _ h2 h4, decide_eq_true hf])
  obtain ⟨⟨f1, f2, f3, f4⟩, f5, f6, f7, f8⟩ := hf
  clear hm
  go_enter Try.func10, Try.ntmps10
  go_wp2_with fail
  refine (hgood _).mono ?_
  rintro e w1 ⟨rfl, hb⟩
  clear hgood
  have K0 := Aside0.mk (blk_below (blk_alloc (blk_alloc (blk_new w (.cells #[.int .i64 L, .int .i64 C] 23 (0, 0))) _) _) hb)
  have K1 := Aside0.mk (blk_below (blk_alloc (blk_new1 w _ (.cells #[.int .i64 A, .int .i64 D, .int .i64 G, .int .i64 N, .bool R] 36 (0, 0))) _) hb)
  have K2 := Aside0.mk (blk_below (blk_new2 w _ _ (.cells #[.int .i64 0, .int .i64 0, .int .i64 0, .int .i64 0] 33 (0, 0))) hb)
  have HB := Aside0.mk (below_step (below_alloc (below_alloc (below_alloc (Below.refl _ _) _) _) _) hb)
  have hz := Aside0.mk hb.size
  clear hb
  have hz0 : w.heap.size < w1.heap.size := by have := hz.out; simp at this; omega
  have hz1 : w.heap.size + 1 < w1.heap.size := by have := hz.out; simp at this; omega
  have hz2 : ¬ (w.heap.size = w1.heap.size) := by omega
  have hz3 : ¬ (w.heap.size + 1 = w1.heap.size) := by omega
  have cL : w1.cell? ⟨w.heap.size, 0, none⟩ = some (.int .i64 L) := (blk_cell K0.out 0).trans rfl
  have cC : w1.cell? ⟨w.heap.size, 1, none⟩ = some (.int .i64 C) := (blk_cell K0.out 1).trans rfl
  have cA : w1.cell? ⟨w.heap.size + 1, 0, none⟩ = some (.int .i64 A) := (blk_cell K1.out 0).trans rfl
  have cD : w1.cell? ⟨w.heap.size + 1, 1, none⟩ = some (.int .i64 D) := (blk_cell K1.out 1).trans rfl
  have cG : w1.cell? ⟨w.heap.size + 1, 2, none⟩ = some (.int .i64 G) := (blk_cell K1.out 2).trans rfl
  have cN : w1.cell? ⟨w.heap.size + 1, 3, none⟩ = some (.int .i64 N) := (blk_cell K1.out 3).trans rfl
  have cR : w1.cell? ⟨w.heap.size + 1, 4, none⟩ = some (.bool R) := (blk_cell K1.out 4).trans rfl
  go_wp2_with fail
  refine (hfit _).mono ?_
  rintro e w2 ⟨rfl, hb2⟩
  clear hfit
  have J0 := Aside0.mk (blk_below (blk_alloc K0.out (.cells #[.bool true, .func (.func 29) #[] #[], .func (.func 28) #[] #[]] 53 (0, 0))) hb2)
  have J1 := Aside0.mk (blk_below (blk_alloc K1.out (.cells #[.bool true, .func (.func 29) #[] #[], .func (.func 28) #[] #[]] 53 (0, 0))) hb2)
  have J2 := Aside0.mk (blk_below (blk_alloc K2.out (.cells #[.bool true, .func (.func 29) #[] #[], .func (.func 28) #[] #[]] 53 (0, 0))) hb2)
  have J3 := Aside0.mk (blk_below (blk_new w1 (.cells #[.bool true, .func (.func 29) #[] #[], .func (.func 28) #[] #[]] 53 (0, 0))) hb2)
  have HB2 := Aside0.mk (below_step (below_alloc HB.out _) hb2)
  clear K0 K1 K2 HB hb2 cL cC cA cD cG cN cR hz0 hz1 hz2 hz3
  have dL : w2.cell? ⟨w.heap.size, 0, none⟩ = some (.int .i64 L) := (blk_cell J0.out 0).trans rfl
  have dC : w2.cell? ⟨w.heap.size, 1, none⟩ = some (.int .i64 C) := (blk_cell J0.out 1).trans rfl
  have dA : w2.cell? ⟨w.heap.size + 1, 0, none⟩ = some (.int .i64 A) := (blk_cell J1.out 0).trans rfl
  have dD : w2.cell? ⟨w.heap.size + 1, 1, none⟩ = some (.int .i64 D) := (blk_cell J1.out 1).trans rfl
  have dG : w2.cell? ⟨w.heap.size + 1, 2, none⟩ = some (.int .i64 G) := (blk_cell J1.out 2).trans rfl
  have dN : w2.cell? ⟨w.heap.size + 1, 3, none⟩ = some (.int .i64 N) := (blk_cell J1.out 3).trans rfl
  have dR : w2.cell? ⟨w.heap.size + 1, 4, none⟩ = some (.bool R) := (blk_cell J1.out 4).trans rfl
  have dU : w2.cell? ⟨w1.heap.size, 0, none⟩ = some (.bool true) := (blk_cell J3.out 0).trans rfl
  have dF : w2.cell? ⟨w1.heap.size, 1, none⟩ = some (.func (.func 29) #[] #[]) := (blk_cell J3.out 1).trans rfl
  have dH : w2.cell? ⟨w1.heap.size, 2, none⟩ = some (.func (.func 28) #[] #[]) := (blk_cell J3.out 2).trans rfl
  have hp := fun wx => back_any L C A D wx f1 f3 h2 f2 f4
  have hq := fun wx => forward_any L C G N R wx
  go_wp2
  go_region_held3 (fun w' => w'.cell? ⟨w.heap.size, 0, none⟩ = some (.int .i64 L) ∧ w'.cell? ⟨w.heap.size, 1, none⟩ = some (.int .i64 C) ∧ w'.cell? ⟨w.heap.size + 1, 0, none⟩ = some (.int .i64 A) ∧ w'.cell? ⟨w.heap.size + 1, 1, none⟩ = some (.int .i64 D) ∧ w'.cell? ⟨w.heap.size + 1, 2, none⟩ = some (.int .i64 G) ∧ w'.cell? ⟨w.heap.size + 1, 3, none⟩ = some (.int .i64 N) ∧ w'.cell? ⟨w.heap.size + 1, 4, none⟩ = some (.bool R) ∧ w'.cell? ⟨w1.heap.size, 1, none⟩ = some (.func (.func 29) #[] #[]) ∧ w'.cell? ⟨w1.heap.size, 2, none⟩ = some (.func (.func 28) #[] #[]))
    (first | go_keep)
    (first | (go_at_call 29; refine (hp _).mono ?_; rintro e w3 ⟨rfl, rfl⟩) | (go_at_call 28; refine (hq _).mono ?_; rintro e w3 ⟨rfl, rfl⟩))
  obtain ⟨w3, hw3⟩ : ∃ w3, w3 = ((w2.alloc (.cells #[.int .i64 L, .int .i64 C] 23)).alloc (.cells #[.int .i64 L, .int .i64 C] 23)).drew := ⟨_, rfl⟩
  rw [← hw3]
  have M1 := Aside0.mk (hw3 ▸ blk_drew (blk_alloc (blk_alloc J1.out (.cells #[.int .i64 L, .int .i64 C] 23)) (.cells #[.int .i64 L, .int .i64 C] 23)))
  have M2 := Aside0.mk (hw3 ▸ blk_drew (blk_alloc (blk_alloc J2.out (.cells #[.int .i64 L, .int .i64 C] 23)) (.cells #[.int .i64 L, .int .i64 C] 23)))
  have M3 := Aside0.mk (hw3 ▸ blk_drew (blk_alloc (blk_alloc J3.out (.cells #[.int .i64 L, .int .i64 C] 23)) (.cells #[.int .i64 L, .int .i64 C] 23)))
  have HB3 := Aside0.mk (hw3 ▸ below_drew (below_alloc (below_alloc HB2.out (.cells #[.int .i64 L, .int .i64 C] 23)) (.cells #[.int .i64 L, .int .i64 C] 23)))
  clear hw3 J0 J1 J2 J3 HB2 dL dC dA dD dG dN dR dU dF dH hp hq
  have eU : w3.cell? ⟨w1.heap.size, 0, none⟩ = some (.bool true) := (blk_cell M3.out 0).trans rfl
  have eD : w3.cell? ⟨w.heap.size + 1, 1, none⟩ = some (.int .i64 D) := (blk_cell M1.out 1).trans rfl
  have eN : w3.cell? ⟨w.heap.size + 1, 3, none⟩ = some (.int .i64 N) := (blk_cell M1.out 3).trans rfl
  have e0 : w3.cell? ⟨w.heap.size + 1 + 1, 0, none⟩ = some (.int .i64 0) := (blk_cell M2.out 0).trans rfl
  have e1 : w3.cell? ⟨w.heap.size + 1 + 1, 1, none⟩ = some (.int .i64 0) := (blk_cell M2.out 1).trans rfl
  have e2 : w3.cell? ⟨w.heap.size + 1 + 1, 2, none⟩ = some (.int .i64 0) := (blk_cell M2.out 2).trans rfl
  have e3 : w3.cell? ⟨w.heap.size + 1 + 1, 3, none⟩ = some (.int .i64 0) := (blk_cell M2.out 3).trans rfl
  have z0 := blk_frozen M2.out 0
  have z1 := blk_frozen M2.out 1
  have z2 := blk_frozen M2.out 2
  have z3 := blk_frozen M2.out 3
  go_wp2
  refine bodyPost_ret (v := .tuple #[.agg #[.int .i64 (L - A - D), .int .i64 (G), .int .i64 D, .int .i64 N], .int .i64 0]) (by simp [results, Try.results10, go_sem, e0, e1, e2, e3]) rfl ⟨rfl, ?_⟩
  repeat (refine below_set ?_ (show _ ≤ _ by omega))
  exact HB3.out
set_option maxHeartbeats 2000000 in
theorem cells2 (L C A D G N : Int) (R : Bool) (w : World) (hg : Good L C 2) (hf : FitsB L C A D G N) :
    Calls Try.prog 10 #[.agg #[.int .i64 L, .int .i64 C], .int .i64 2, .agg #[.int .i64 A, .int .i64 D, .int .i64 G, .int .i64 N, .bool R]] w fun e w' => e = .returned (.tuple #[.agg #[.int .i64 (A), .int .i64 (G), .int .i64 D, .int .i64 N], .int .i64 0]) ∧ Below w.heap.size w w' := by
  obtain ⟨h1, h2, h3, h4, hm⟩ := hg
  have hgood := fun w => of_good L C 2 w h1 h2 h3 h4 hm
  simp [wayOf] at hgood
  have hfit := fun w => place_fits.calls L C A D G N R true w (by rw [fits_some _ _ _ _ _ _ _ h2 h4, decide_eq_true hf])
  obtain ⟨⟨f1, f2, f3, f4⟩, f5, f6, f7, f8⟩ := hf
  clear hm
  go_enter Try.func10, Try.ntmps10
  go_wp2_with fail
  refine (hgood _).mono ?_
  rintro e w1 ⟨rfl, hb⟩
  clear hgood
  have K0 := Aside0.mk (blk_below (blk_alloc (blk_alloc (blk_new w (.cells #[.int .i64 L, .int .i64 C] 23 (0, 0))) _) _) hb)
  have K1 := Aside0.mk (blk_below (blk_alloc (blk_new1 w _ (.cells #[.int .i64 A, .int .i64 D, .int .i64 G, .int .i64 N, .bool R] 36 (0, 0))) _) hb)
  have K2 := Aside0.mk (blk_below (blk_new2 w _ _ (.cells #[.int .i64 0, .int .i64 0, .int .i64 0, .int .i64 0] 33 (0, 0))) hb)
  have HB := Aside0.mk (below_step (below_alloc (below_alloc (below_alloc (Below.refl _ _) _) _) _) hb)
  have hz := Aside0.mk hb.size
  clear hb
  have hz0 : w.heap.size < w1.heap.size := by have := hz.out; simp at this; omega
  have hz1 : w.heap.size + 1 < w1.heap.size := by have := hz.out; simp at this; omega
  have hz2 : ¬ (w.heap.size = w1.heap.size) := by omega
  have hz3 : ¬ (w.heap.size + 1 = w1.heap.size) := by omega
  have cL : w1.cell? ⟨w.heap.size, 0, none⟩ = some (.int .i64 L) := (blk_cell K0.out 0).trans rfl
  have cC : w1.cell? ⟨w.heap.size, 1, none⟩ = some (.int .i64 C) := (blk_cell K0.out 1).trans rfl
  have cA : w1.cell? ⟨w.heap.size + 1, 0, none⟩ = some (.int .i64 A) := (blk_cell K1.out 0).trans rfl
  have cD : w1.cell? ⟨w.heap.size + 1, 1, none⟩ = some (.int .i64 D) := (blk_cell K1.out 1).trans rfl
  have cG : w1.cell? ⟨w.heap.size + 1, 2, none⟩ = some (.int .i64 G) := (blk_cell K1.out 2).trans rfl
  have cN : w1.cell? ⟨w.heap.size + 1, 3, none⟩ = some (.int .i64 N) := (blk_cell K1.out 3).trans rfl
  have cR : w1.cell? ⟨w.heap.size + 1, 4, none⟩ = some (.bool R) := (blk_cell K1.out 4).trans rfl
  go_wp2_with fail
  refine (hfit _).mono ?_
  rintro e w2 ⟨rfl, hb2⟩
  clear hfit
  have J0 := Aside0.mk (blk_below (blk_alloc K0.out (.cells #[.bool true, .func (.func 27) #[] #[], .func (.func 28) #[] #[]] 53 (0, 0))) hb2)
  have J1 := Aside0.mk (blk_below (blk_alloc K1.out (.cells #[.bool true, .func (.func 27) #[] #[], .func (.func 28) #[] #[]] 53 (0, 0))) hb2)
  have J2 := Aside0.mk (blk_below (blk_alloc K2.out (.cells #[.bool true, .func (.func 27) #[] #[], .func (.func 28) #[] #[]] 53 (0, 0))) hb2)
  have J3 := Aside0.mk (blk_below (blk_new w1 (.cells #[.bool true, .func (.func 27) #[] #[], .func (.func 28) #[] #[]] 53 (0, 0))) hb2)
  have HB2 := Aside0.mk (below_step (below_alloc HB.out _) hb2)
  clear K0 K1 K2 HB hb2 cL cC cA cD cG cN cR hz0 hz1 hz2 hz3
  have dL : w2.cell? ⟨w.heap.size, 0, none⟩ = some (.int .i64 L) := (blk_cell J0.out 0).trans rfl
  have dC : w2.cell? ⟨w.heap.size, 1, none⟩ = some (.int .i64 C) := (blk_cell J0.out 1).trans rfl
  have dA : w2.cell? ⟨w.heap.size + 1, 0, none⟩ = some (.int .i64 A) := (blk_cell J1.out 0).trans rfl
  have dD : w2.cell? ⟨w.heap.size + 1, 1, none⟩ = some (.int .i64 D) := (blk_cell J1.out 1).trans rfl
  have dG : w2.cell? ⟨w.heap.size + 1, 2, none⟩ = some (.int .i64 G) := (blk_cell J1.out 2).trans rfl
  have dN : w2.cell? ⟨w.heap.size + 1, 3, none⟩ = some (.int .i64 N) := (blk_cell J1.out 3).trans rfl
  have dR : w2.cell? ⟨w.heap.size + 1, 4, none⟩ = some (.bool R) := (blk_cell J1.out 4).trans rfl
  have dU : w2.cell? ⟨w1.heap.size, 0, none⟩ = some (.bool true) := (blk_cell J3.out 0).trans rfl
  have dF : w2.cell? ⟨w1.heap.size, 1, none⟩ = some (.func (.func 27) #[] #[]) := (blk_cell J3.out 1).trans rfl
  have dH : w2.cell? ⟨w1.heap.size, 2, none⟩ = some (.func (.func 28) #[] #[]) := (blk_cell J3.out 2).trans rfl
  have hp := fun wx => plain_any L C A D wx
  have hq := fun wx => forward_any L C G N R wx
  go_wp2
  go_region_held3 (fun w' => w'.cell? ⟨w.heap.size, 0, none⟩ = some (.int .i64 L) ∧ w'.cell? ⟨w.heap.size, 1, none⟩ = some (.int .i64 C) ∧ w'.cell? ⟨w.heap.size + 1, 0, none⟩ = some (.int .i64 A) ∧ w'.cell? ⟨w.heap.size + 1, 1, none⟩ = some (.int .i64 D) ∧ w'.cell? ⟨w.heap.size + 1, 2, none⟩ = some (.int .i64 G) ∧ w'.cell? ⟨w.heap.size + 1, 3, none⟩ = some (.int .i64 N) ∧ w'.cell? ⟨w.heap.size + 1, 4, none⟩ = some (.bool R) ∧ w'.cell? ⟨w1.heap.size, 1, none⟩ = some (.func (.func 27) #[] #[]) ∧ w'.cell? ⟨w1.heap.size, 2, none⟩ = some (.func (.func 28) #[] #[]))
    (first | go_keep)
    (first | (go_at_call 27; refine (hp _).mono ?_; rintro e w3 ⟨rfl, rfl⟩) | (go_at_call 28; refine (hq _).mono ?_; rintro e w3 ⟨rfl, rfl⟩))
  obtain ⟨w3, hw3⟩ : ∃ w3, w3 = ((w2.alloc (.cells #[.int .i64 L, .int .i64 C] 23)).alloc (.cells #[.int .i64 L, .int .i64 C] 23)).drew := ⟨_, rfl⟩
  rw [← hw3]
  have M1 := Aside0.mk (hw3 ▸ blk_drew (blk_alloc (blk_alloc J1.out (.cells #[.int .i64 L, .int .i64 C] 23)) (.cells #[.int .i64 L, .int .i64 C] 23)))
  have M2 := Aside0.mk (hw3 ▸ blk_drew (blk_alloc (blk_alloc J2.out (.cells #[.int .i64 L, .int .i64 C] 23)) (.cells #[.int .i64 L, .int .i64 C] 23)))
  have M3 := Aside0.mk (hw3 ▸ blk_drew (blk_alloc (blk_alloc J3.out (.cells #[.int .i64 L, .int .i64 C] 23)) (.cells #[.int .i64 L, .int .i64 C] 23)))
  have HB3 := Aside0.mk (hw3 ▸ below_drew (below_alloc (below_alloc HB2.out (.cells #[.int .i64 L, .int .i64 C] 23)) (.cells #[.int .i64 L, .int .i64 C] 23)))
  clear hw3 J0 J1 J2 J3 HB2 dL dC dA dD dG dN dR dU dF dH hp hq
  have eU : w3.cell? ⟨w1.heap.size, 0, none⟩ = some (.bool true) := (blk_cell M3.out 0).trans rfl
  have eD : w3.cell? ⟨w.heap.size + 1, 1, none⟩ = some (.int .i64 D) := (blk_cell M1.out 1).trans rfl
  have eN : w3.cell? ⟨w.heap.size + 1, 3, none⟩ = some (.int .i64 N) := (blk_cell M1.out 3).trans rfl
  have e0 : w3.cell? ⟨w.heap.size + 1 + 1, 0, none⟩ = some (.int .i64 0) := (blk_cell M2.out 0).trans rfl
  have e1 : w3.cell? ⟨w.heap.size + 1 + 1, 1, none⟩ = some (.int .i64 0) := (blk_cell M2.out 1).trans rfl
  have e2 : w3.cell? ⟨w.heap.size + 1 + 1, 2, none⟩ = some (.int .i64 0) := (blk_cell M2.out 2).trans rfl
  have e3 : w3.cell? ⟨w.heap.size + 1 + 1, 3, none⟩ = some (.int .i64 0) := (blk_cell M2.out 3).trans rfl
  have z0 := blk_frozen M2.out 0
  have z1 := blk_frozen M2.out 1
  have z2 := blk_frozen M2.out 2
  have z3 := blk_frozen M2.out 3
  go_wp2
  refine bodyPost_ret (v := .tuple #[.agg #[.int .i64 (A), .int .i64 (G), .int .i64 D, .int .i64 N], .int .i64 0]) (by simp [results, Try.results10, go_sem, e0, e1, e2, e3]) rfl ⟨rfl, ?_⟩
  repeat (refine below_set ?_ (show _ ≤ _ by omega))
  exact HB3.out
set_option maxHeartbeats 2000000 in
theorem cells3 (L C A D G N : Int) (R : Bool) (w : World) (hg : Good L C 3) (hf : FitsB L C A D G N) :
    Calls Try.prog 10 #[.agg #[.int .i64 L, .int .i64 C], .int .i64 3, .agg #[.int .i64 A, .int .i64 D, .int .i64 G, .int .i64 N, .bool R]] w fun e w' => e = .returned (.tuple #[.agg #[.int .i64 (trn R C G N), .int .i64 (A), .int .i64 N, .int .i64 D], .int .i64 0]) ∧ Below w.heap.size w w' := by
  obtain ⟨h1, h2, h3, h4, hm⟩ := hg
  have hgood := fun w => of_good L C 3 w h1 h2 h3 h4 hm
  simp [wayOf] at hgood
  have hfit := fun w => place_fits.calls L C A D G N R true w (by rw [fits_some _ _ _ _ _ _ _ h2 h4, decide_eq_true hf])
  obtain ⟨⟨f1, f2, f3, f4⟩, f5, f6, f7, f8⟩ := hf
  clear hm
  go_enter Try.func10, Try.ntmps10
  go_wp2_with fail
  refine (hgood _).mono ?_
  rintro e w1 ⟨rfl, hb⟩
  clear hgood
  have K0 := Aside0.mk (blk_below (blk_alloc (blk_alloc (blk_new w (.cells #[.int .i64 L, .int .i64 C] 23 (0, 0))) _) _) hb)
  have K1 := Aside0.mk (blk_below (blk_alloc (blk_new1 w _ (.cells #[.int .i64 A, .int .i64 D, .int .i64 G, .int .i64 N, .bool R] 36 (0, 0))) _) hb)
  have K2 := Aside0.mk (blk_below (blk_new2 w _ _ (.cells #[.int .i64 0, .int .i64 0, .int .i64 0, .int .i64 0] 33 (0, 0))) hb)
  have HB := Aside0.mk (below_step (below_alloc (below_alloc (below_alloc (Below.refl _ _) _) _) _) hb)
  have hz := Aside0.mk hb.size
  clear hb
  have hz0 : w.heap.size < w1.heap.size := by have := hz.out; simp at this; omega
  have hz1 : w.heap.size + 1 < w1.heap.size := by have := hz.out; simp at this; omega
  have hz2 : ¬ (w.heap.size = w1.heap.size) := by omega
  have hz3 : ¬ (w.heap.size + 1 = w1.heap.size) := by omega
  have cL : w1.cell? ⟨w.heap.size, 0, none⟩ = some (.int .i64 L) := (blk_cell K0.out 0).trans rfl
  have cC : w1.cell? ⟨w.heap.size, 1, none⟩ = some (.int .i64 C) := (blk_cell K0.out 1).trans rfl
  have cA : w1.cell? ⟨w.heap.size + 1, 0, none⟩ = some (.int .i64 A) := (blk_cell K1.out 0).trans rfl
  have cD : w1.cell? ⟨w.heap.size + 1, 1, none⟩ = some (.int .i64 D) := (blk_cell K1.out 1).trans rfl
  have cG : w1.cell? ⟨w.heap.size + 1, 2, none⟩ = some (.int .i64 G) := (blk_cell K1.out 2).trans rfl
  have cN : w1.cell? ⟨w.heap.size + 1, 3, none⟩ = some (.int .i64 N) := (blk_cell K1.out 3).trans rfl
  have cR : w1.cell? ⟨w.heap.size + 1, 4, none⟩ = some (.bool R) := (blk_cell K1.out 4).trans rfl
  go_wp2_with fail
  refine (hfit _).mono ?_
  rintro e w2 ⟨rfl, hb2⟩
  clear hfit
  have J0 := Aside0.mk (blk_below (blk_alloc K0.out (.cells #[.bool false, .func (.func 27) #[] #[], .func (.func 30) #[] #[]] 53 (0, 0))) hb2)
  have J1 := Aside0.mk (blk_below (blk_alloc K1.out (.cells #[.bool false, .func (.func 27) #[] #[], .func (.func 30) #[] #[]] 53 (0, 0))) hb2)
  have J2 := Aside0.mk (blk_below (blk_alloc K2.out (.cells #[.bool false, .func (.func 27) #[] #[], .func (.func 30) #[] #[]] 53 (0, 0))) hb2)
  have J3 := Aside0.mk (blk_below (blk_new w1 (.cells #[.bool false, .func (.func 27) #[] #[], .func (.func 30) #[] #[]] 53 (0, 0))) hb2)
  have HB2 := Aside0.mk (below_step (below_alloc HB.out _) hb2)
  clear K0 K1 K2 HB hb2 cL cC cA cD cG cN cR hz0 hz1 hz2 hz3
  have dL : w2.cell? ⟨w.heap.size, 0, none⟩ = some (.int .i64 L) := (blk_cell J0.out 0).trans rfl
  have dC : w2.cell? ⟨w.heap.size, 1, none⟩ = some (.int .i64 C) := (blk_cell J0.out 1).trans rfl
  have dA : w2.cell? ⟨w.heap.size + 1, 0, none⟩ = some (.int .i64 A) := (blk_cell J1.out 0).trans rfl
  have dD : w2.cell? ⟨w.heap.size + 1, 1, none⟩ = some (.int .i64 D) := (blk_cell J1.out 1).trans rfl
  have dG : w2.cell? ⟨w.heap.size + 1, 2, none⟩ = some (.int .i64 G) := (blk_cell J1.out 2).trans rfl
  have dN : w2.cell? ⟨w.heap.size + 1, 3, none⟩ = some (.int .i64 N) := (blk_cell J1.out 3).trans rfl
  have dR : w2.cell? ⟨w.heap.size + 1, 4, none⟩ = some (.bool R) := (blk_cell J1.out 4).trans rfl
  have dU : w2.cell? ⟨w1.heap.size, 0, none⟩ = some (.bool false) := (blk_cell J3.out 0).trans rfl
  have dF : w2.cell? ⟨w1.heap.size, 1, none⟩ = some (.func (.func 27) #[] #[]) := (blk_cell J3.out 1).trans rfl
  have dH : w2.cell? ⟨w1.heap.size, 2, none⟩ = some (.func (.func 30) #[] #[]) := (blk_cell J3.out 2).trans rfl
  have hp := fun wx => plain_any L C A D wx
  have hq := fun wx => turned_any L C G N R wx f5 f7 h4 f6 f8
  go_wp2
  go_region_held3 (fun w' => w'.cell? ⟨w.heap.size, 0, none⟩ = some (.int .i64 L) ∧ w'.cell? ⟨w.heap.size, 1, none⟩ = some (.int .i64 C) ∧ w'.cell? ⟨w.heap.size + 1, 0, none⟩ = some (.int .i64 A) ∧ w'.cell? ⟨w.heap.size + 1, 1, none⟩ = some (.int .i64 D) ∧ w'.cell? ⟨w.heap.size + 1, 2, none⟩ = some (.int .i64 G) ∧ w'.cell? ⟨w.heap.size + 1, 3, none⟩ = some (.int .i64 N) ∧ w'.cell? ⟨w.heap.size + 1, 4, none⟩ = some (.bool R) ∧ w'.cell? ⟨w1.heap.size, 1, none⟩ = some (.func (.func 27) #[] #[]) ∧ w'.cell? ⟨w1.heap.size, 2, none⟩ = some (.func (.func 30) #[] #[]))
    (first | go_keep)
    (first | (go_at_call 27; refine (hp _).mono ?_; rintro e w3 ⟨rfl, rfl⟩) | (go_at_call 30; refine (hq _).mono ?_; rintro e w3 ⟨rfl, rfl⟩))
  obtain ⟨w3, hw3⟩ : ∃ w3, w3 = ((w2.alloc (.cells #[.int .i64 L, .int .i64 C] 23)).alloc (.cells #[.int .i64 L, .int .i64 C] 23)).drew := ⟨_, rfl⟩
  rw [← hw3]
  have M1 := Aside0.mk (hw3 ▸ blk_drew (blk_alloc (blk_alloc J1.out (.cells #[.int .i64 L, .int .i64 C] 23)) (.cells #[.int .i64 L, .int .i64 C] 23)))
  have M2 := Aside0.mk (hw3 ▸ blk_drew (blk_alloc (blk_alloc J2.out (.cells #[.int .i64 L, .int .i64 C] 23)) (.cells #[.int .i64 L, .int .i64 C] 23)))
  have M3 := Aside0.mk (hw3 ▸ blk_drew (blk_alloc (blk_alloc J3.out (.cells #[.int .i64 L, .int .i64 C] 23)) (.cells #[.int .i64 L, .int .i64 C] 23)))
  have HB3 := Aside0.mk (hw3 ▸ below_drew (below_alloc (below_alloc HB2.out (.cells #[.int .i64 L, .int .i64 C] 23)) (.cells #[.int .i64 L, .int .i64 C] 23)))
  clear hw3 J0 J1 J2 J3 HB2 dL dC dA dD dG dN dR dU dF dH hp hq
  have eU : w3.cell? ⟨w1.heap.size, 0, none⟩ = some (.bool false) := (blk_cell M3.out 0).trans rfl
  have eD : w3.cell? ⟨w.heap.size + 1, 1, none⟩ = some (.int .i64 D) := (blk_cell M1.out 1).trans rfl
  have eN : w3.cell? ⟨w.heap.size + 1, 3, none⟩ = some (.int .i64 N) := (blk_cell M1.out 3).trans rfl
  have e0 : w3.cell? ⟨w.heap.size + 1 + 1, 0, none⟩ = some (.int .i64 0) := (blk_cell M2.out 0).trans rfl
  have e1 : w3.cell? ⟨w.heap.size + 1 + 1, 1, none⟩ = some (.int .i64 0) := (blk_cell M2.out 1).trans rfl
  have e2 : w3.cell? ⟨w.heap.size + 1 + 1, 2, none⟩ = some (.int .i64 0) := (blk_cell M2.out 2).trans rfl
  have e3 : w3.cell? ⟨w.heap.size + 1 + 1, 3, none⟩ = some (.int .i64 0) := (blk_cell M2.out 3).trans rfl
  have z0 := blk_frozen M2.out 0
  have z1 := blk_frozen M2.out 1
  have z2 := blk_frozen M2.out 2
  have z3 := blk_frozen M2.out 3
  go_wp2
  refine bodyPost_ret (v := .tuple #[.agg #[.int .i64 (trn R C G N), .int .i64 (A), .int .i64 N, .int .i64 D], .int .i64 0]) (by simp [results, Try.results10, go_sem, e0, e1, e2, e3]) rfl ⟨rfl, ?_⟩
  repeat (refine below_set ?_ (show _ ≤ _ by omega))
  exact HB3.out
set_option maxHeartbeats 2000000 in
theorem cells_bad (L C m A D G N : Int) (R : Bool) (w : World) (hg : ¬ Good L C m) :
    Calls Try.prog 10 #[.agg #[.int .i64 L, .int .i64 C], .int .i64 m, .agg #[.int .i64 A, .int .i64 D, .int .i64 G, .int .i64 N, .bool R]] w fun e w' => e = .returned (.tuple #[.agg #[.int .i64 0, .int .i64 0, .int .i64 0, .int .i64 0], .int .i64 191]) ∧ Below w.heap.size w w' := by
  have hbad := fun w => of_bad L C m w hg
  clear hg
  go_enter Try.func10, Try.ntmps10
  go_wp2_with fail
  refine (hbad _).mono ?_
  rintro e w1 ⟨rfl, hb⟩
  clear hbad
  have K2 := Aside0.mk (blk_below (blk_new2 w _ _ (.cells #[.int .i64 0, .int .i64 0, .int .i64 0, .int .i64 0] 33 (0, 0))) hb)
  have HB := Aside0.mk (below_step (below_alloc (below_alloc (below_alloc (Below.refl _ _) _) _) _) hb)
  have hz : w.heap.size + 1 + 1 < w1.heap.size := by have := hb.size; simp at this; omega
  clear hb
  have hz3 : ¬ (w.heap.size + 1 + 1 = w1.heap.size) := by omega
  have e0 : w1.cell? ⟨w.heap.size + 1 + 1, 0, none⟩ = some (.int .i64 0) := (blk_cell K2.out 0).trans rfl
  have e1 : w1.cell? ⟨w.heap.size + 1 + 1, 1, none⟩ = some (.int .i64 0) := (blk_cell K2.out 1).trans rfl
  have e2 : w1.cell? ⟨w.heap.size + 1 + 1, 2, none⟩ = some (.int .i64 0) := (blk_cell K2.out 2).trans rfl
  have e3 : w1.cell? ⟨w.heap.size + 1 + 1, 3, none⟩ = some (.int .i64 0) := (blk_cell K2.out 3).trans rfl
  have z0 := blk_frozen K2.out 0
  have z1 := blk_frozen K2.out 1
  have z2 := blk_frozen K2.out 2
  have z3 := blk_frozen K2.out 3
  go_wp2
  refine bodyPost_ret (v := .tuple #[.agg #[.int .i64 0, .int .i64 0, .int .i64 0, .int .i64 0], .int .i64 191]) (by simp [results, Try.results10, go_sem, e0, e1, e2, e3, hz, hz3]) rfl ⟨rfl, ?_⟩
  refine below_alloc ?_ _
  repeat (refine below_set ?_ (show _ ≤ _ by omega))
  exact HB.out
set_option maxHeartbeats 2000000 in
theorem cells_off (L C m A D G N : Int) (R : Bool) (w : World) (hg : Good L C m) (hf : ¬ FitsB L C A D G N) :
    Calls Try.prog 10 #[.agg #[.int .i64 L, .int .i64 C], .int .i64 m, .agg #[.int .i64 A, .int .i64 D, .int .i64 G, .int .i64 N, .bool R]] w fun e w' => e = .returned (.tuple #[.agg #[.int .i64 0, .int .i64 0, .int .i64 0, .int .i64 0], .int .i64 191]) ∧ Below w.heap.size w w' := by
  obtain ⟨h1, h2, h3, h4, hm⟩ := hg
  have hgood := fun w => of_good L C m w h1 h2 h3 h4 hm
  have hfit := fun w => place_fits.calls L C A D G N R false w (by rw [fits_some _ _ _ _ _ _ _ h2 h4, decide_eq_false hf])
  obtain ⟨U, F1, F2, hU⟩ : ∃ U F1 F2, wayOf m = #[.bool U, .func (.func F1) #[] #[], .func (.func F2) #[] #[]] := by
    rcases hm with rfl | rfl | rfl | rfl
    · exact ⟨_, _, _, rfl⟩
    · exact ⟨_, _, _, rfl⟩
    · exact ⟨_, _, _, rfl⟩
    · exact ⟨_, _, _, rfl⟩
  rw [hU] at hgood
  clear h1 h2 h3 h4 hm hf hU
  go_enter Try.func10, Try.ntmps10
  go_wp2_with fail
  refine (hgood _).mono ?_
  rintro e w1 ⟨rfl, hb⟩
  clear hgood
  have K0 := Aside0.mk (blk_below (blk_alloc (blk_alloc (blk_new w (.cells #[.int .i64 L, .int .i64 C] 23 (0, 0))) _) _) hb)
  have K1 := Aside0.mk (blk_below (blk_alloc (blk_new1 w _ (.cells #[.int .i64 A, .int .i64 D, .int .i64 G, .int .i64 N, .bool R] 36 (0, 0))) _) hb)
  have K2 := Aside0.mk (blk_below (blk_new2 w _ _ (.cells #[.int .i64 0, .int .i64 0, .int .i64 0, .int .i64 0] 33 (0, 0))) hb)
  have HB := Aside0.mk (below_step (below_alloc (below_alloc (below_alloc (Below.refl _ _) _) _) _) hb)
  have hz := Aside0.mk hb.size
  clear hb
  have hz0 : w.heap.size < w1.heap.size := by have := hz.out; simp at this; omega
  have hz1 : w.heap.size + 1 < w1.heap.size := by have := hz.out; simp at this; omega
  have hz2 : ¬ (w.heap.size = w1.heap.size) := by omega
  have hz3 : ¬ (w.heap.size + 1 = w1.heap.size) := by omega
  have cL : w1.cell? ⟨w.heap.size, 0, none⟩ = some (.int .i64 L) := (blk_cell K0.out 0).trans rfl
  have cC : w1.cell? ⟨w.heap.size, 1, none⟩ = some (.int .i64 C) := (blk_cell K0.out 1).trans rfl
  have cA : w1.cell? ⟨w.heap.size + 1, 0, none⟩ = some (.int .i64 A) := (blk_cell K1.out 0).trans rfl
  have cD : w1.cell? ⟨w.heap.size + 1, 1, none⟩ = some (.int .i64 D) := (blk_cell K1.out 1).trans rfl
  have cG : w1.cell? ⟨w.heap.size + 1, 2, none⟩ = some (.int .i64 G) := (blk_cell K1.out 2).trans rfl
  have cN : w1.cell? ⟨w.heap.size + 1, 3, none⟩ = some (.int .i64 N) := (blk_cell K1.out 3).trans rfl
  have cR : w1.cell? ⟨w.heap.size + 1, 4, none⟩ = some (.bool R) := (blk_cell K1.out 4).trans rfl
  go_wp2_with fail
  refine (hfit _).mono ?_
  rintro e w2 ⟨rfl, hb2⟩
  clear hfit
  have J2 := Aside0.mk (blk_below (blk_alloc K2.out (.cells #[.bool U, .func (.func F1) #[] #[], .func (.func F2) #[] #[]] 53 (0, 0))) hb2)
  have HB2 := Aside0.mk (below_step (below_alloc HB.out _) hb2)
  clear K0 K1 K2 HB hb2 cL cC cA cD cG cN cR hz0 hz1 hz2 hz3
  have e0 : w2.cell? ⟨w.heap.size + 1 + 1, 0, none⟩ = some (.int .i64 0) := (blk_cell J2.out 0).trans rfl
  have e1 : w2.cell? ⟨w.heap.size + 1 + 1, 1, none⟩ = some (.int .i64 0) := (blk_cell J2.out 1).trans rfl
  have e2 : w2.cell? ⟨w.heap.size + 1 + 1, 2, none⟩ = some (.int .i64 0) := (blk_cell J2.out 2).trans rfl
  have e3 : w2.cell? ⟨w.heap.size + 1 + 1, 3, none⟩ = some (.int .i64 0) := (blk_cell J2.out 3).trans rfl
  have z0 := blk_frozen J2.out 0
  have z1 := blk_frozen J2.out 1
  have z2 := blk_frozen J2.out 2
  have z3 := blk_frozen J2.out 3
  go_wp2
  refine bodyPost_ret (v := .tuple #[.agg #[.int .i64 0, .int .i64 0, .int .i64 0, .int .i64 0], .int .i64 191]) (by simp [results, Try.results10, go_sem, e0, e1, e2, e3]) rfl ⟨rfl, ?_⟩
  repeat (refine below_set ?_ (show _ ≤ _ by omega))
  exact HB2.out
def place_Cells.f (L C m A D G N : Int) (R : Bool) : Option (Int × Int × Int × Int × Int) :=
  if Good L C m ∧ FitsB L C A D G N then
    (if m = 1 then some (L - A - D, G, D, N, 0) else if m = 2 then some (A, G, D, N, 0) else if m = 3 then some (trn R C G N, A, N, D, 0) else some (G, A, N, D, 0))
  else some (0, 0, 0, 0, 191)
theorem place_Cells.calls (a0_0 : Int) (a0_1 : Int) (a1 : Int) (a2_0 : Int) (a2_1 : Int) (a2_2 : Int) (a2_3 : Int) (a2_4 : Bool) (r1 : Int) (r2 : Int) (r3 : Int) (r4 : Int) (r5 : Int) (w : World) (h : place_Cells.f a0_0 a0_1 a1 a2_0 a2_1 a2_2 a2_3 a2_4 = some (r1, r2, r3, r4, r5)) :
    Calls Try.prog 10 #[.agg #[.int .i64 a0_0, .int .i64 a0_1], .int .i64 a1, .agg #[.int .i64 a2_0, .int .i64 a2_1, .int .i64 a2_2, .int .i64 a2_3, .bool a2_4]] w fun e w' => e = .returned (.tuple #[.agg #[.int .i64 r1, .int .i64 r2, .int .i64 r3, .int .i64 r4], .int .i64 r5]) ∧ Below w.heap.size w w' := by
  unfold place_Cells.f at h
  by_cases hg : Good a0_0 a0_1 a1
  · by_cases hf : FitsB a0_0 a0_1 a2_0 a2_1 a2_2 a2_3
    · rw [if_pos ⟨hg, hf⟩] at h
      rcases hg.2.2.2.2 with rfl | rfl | rfl | rfl
      · simp at h
        obtain ⟨rfl, rfl, rfl, rfl, rfl⟩ := h
        exact cells0 _ _ _ _ _ _ _ _ hg hf
      · simp at h
        obtain ⟨rfl, rfl, rfl, rfl, rfl⟩ := h
        exact cells1 _ _ _ _ _ _ _ _ hg hf
      · simp at h
        obtain ⟨rfl, rfl, rfl, rfl, rfl⟩ := h
        exact cells2 _ _ _ _ _ _ _ _ hg hf
      · simp at h
        obtain ⟨rfl, rfl, rfl, rfl, rfl⟩ := h
        exact cells3 _ _ _ _ _ _ _ _ hg hf
    · rw [if_neg (fun h => hf h.2)] at h
      simp at h
      obtain ⟨rfl, rfl, rfl, rfl, rfl⟩ := h
      exact cells_off _ _ _ _ _ _ _ _ _ hg hf
  · rw [if_neg (fun h => hg h.1)] at h
    simp at h
    obtain ⟨rfl, rfl, rfl, rfl, rfl⟩ := h
    exact cells_bad _ _ _ _ _ _ _ _ _ hg
end Go.Proofs.Ytfaaahchcghnlaa.P
