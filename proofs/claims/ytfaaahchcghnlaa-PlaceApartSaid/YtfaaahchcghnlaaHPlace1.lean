/- Walks of place.ways, place.of and place.Sides: what they answer, at every page and mode; no condition. -/
import Derived.Test.YtfaaahchcghnlaaP0
import Derived.Laws.EntriesVeiled
import Derived.WalkSpells
import Derived.WalkLawsBesides
namespace Go.Proofs.Ytfaaahchcghnlaa.P
open Go.RowKit Go.Proofs.YtfaaahchcghnlaaW.PrintWords Go.Proofs.YtfaaahchcghnlaaW.PrintLast
set_option linter.unusedSimpArgs false
set_option linter.unusedVariables false
theorem bcell {B : Nat} {W w1 : World} (hb : Below B W w1) : (∀ b o, b < B → w1.cell? ⟨b, o, none⟩ = W.cell? ⟨b, o, none⟩) ∧ (∀ b o, b < B → w1.frozen? ⟨b, o, none⟩ = W.frozen? ⟨b, o, none⟩) :=
  ⟨fun b o h => hb.cell (p := ⟨b, o, none⟩) h, fun b o h => hb.frozen (p := ⟨b, o, none⟩) h⟩
abbrev way0 : Array Value := #[.bool false, .func (.func 27) #[] #[], .func (.func 28) #[] #[]]
abbrev way1 : Array Value := #[.bool true, .func (.func 29) #[] #[], .func (.func 28) #[] #[]]
abbrev way2 : Array Value := #[.bool true, .func (.func 27) #[] #[], .func (.func 28) #[] #[]]
abbrev way3 : Array Value := #[.bool false, .func (.func 27) #[] #[], .func (.func 30) #[] #[]]
def wayOf (m : Int) : Array Value := if m = 0 then way0 else if m = 1 then way1 else if m = 2 then way2 else way3
def ways : Array Value := #[.bool false, .func (.func 27) #[] #[], .func (.func 28) #[] #[], .bool true, .func (.func 29) #[] #[], .func (.func 28) #[] #[], .bool true, .func (.func 27) #[] #[], .func (.func 28) #[] #[], .bool false, .func (.func 27) #[] #[], .func (.func 30) #[] #[]]
set_option maxHeartbeats 400000 in
theorem ways_any (w : World) : Calls Try.prog 26 #[] w fun e w' => e = .returned (.agg ways) ∧ Below w.heap.size w w' := by
  go_enter Try.func26, Try.ntmps26
  go_wp2
  refine bodyPost_ret (v := .agg ways) (by simp [results, Try.results26, ways, go_sem]) rfl ⟨rfl, (Below.refl _ _).alloc (Nat.le_refl _) _⟩
set_option maxHeartbeats 400000 in
theorem side_yes (n : Int) (w : World) (h1 : 1 ≤ n) (h2 : n ≤ 60) : Calls Try.prog 25 #[.int .i64 n] w fun e w' => e = .returned (.bool true) ∧ w = w' := by
  go_enter Try.func25, Try.ntmps25
  go_wp2
  go_ret
  exact ⟨rfl, rfl⟩
set_option maxHeartbeats 400000 in
theorem side_no (n : Int) (w : World) (h : ¬ (1 ≤ n ∧ n ≤ 60)) : Calls Try.prog 25 #[.int .i64 n] w fun e w' => e = .returned (.bool false) ∧ w = w' := by
  by_cases h1 : 1 ≤ n
  · have h2 : decide (n ≤ 60) = false := decide_eq_false (by omega)
    clear h
    go_enter Try.func25, Try.ntmps25
    go_wp2
    go_ret
    exact ⟨rfl, rfl⟩
  · have h2 : decide (1 ≤ n) = false := decide_eq_false h1
    clear h h1
    go_enter Try.func25, Try.ntmps25
    go_wp2
    go_ret
    exact ⟨rfl, rfl⟩
set_option maxHeartbeats 2000000 in
theorem of_good (L C m : Int) (w : World) (h1 : 1 ≤ L) (h2 : L ≤ 60) (h3 : 1 ≤ C) (h4 : C ≤ 60) (hm : m = 0 ∨ m = 1 ∨ m = 2 ∨ m = 3) :
    Calls Try.prog 19 #[.agg #[.int .i64 L, .int .i64 C], .int .i64 m] w fun e w' => e = .returned (.tuple #[.agg (wayOf m), .bool true]) ∧ Below w.heap.size w w' := by
  have i0 : ∀ w, (Instr.index 61 (.agg ways) (.int .i64 0)).run Try.prog w = .ok (.agg way0) w := fun _ => by kernel_rfl
  have i1 : ∀ w, (Instr.index 61 (.agg ways) (.int .i64 1)).run Try.prog w = .ok (.agg way1) w := fun _ => by kernel_rfl
  have i2 : ∀ w, (Instr.index 61 (.agg ways) (.int .i64 2)).run Try.prog w = .ok (.agg way2) w := fun _ => by kernel_rfl
  have i3 : ∀ w, (Instr.index 61 (.agg ways) (.int .i64 3)).run Try.prog w = .ok (.agg way3) w := fun _ => by kernel_rfl
  rcases hm with rfl | rfl | rfl | rfl
  all_goals
    go_enter Try.func19, Try.ntmps19
    go_wp2_with fail
    refine (side_yes L _ h1 h2).mono ?_
    rintro e w1 ⟨rfl, rfl⟩
    go_wp2_with fail
    refine (side_yes C _ h3 h4).mono ?_
    rintro e w1 ⟨rfl, rfl⟩
    go_wp2_with fail
    refine (ways_any _).mono ?_
    rintro e w1 ⟨rfl, hb⟩
    obtain ⟨hc, hf⟩ := bcell hb
    have hz : w.heap.size + 1 < w1.heap.size := by have := hb.size; simp at this; omega
    go_wp2
    refine bodyPost_ret (v := .tuple #[.agg (wayOf _), .bool true]) (by simp [results, Try.results19, wayOf, go_sem, hc, hz]) rfl ⟨rfl, ?_⟩
    exact ((((((Below.refl _ _).alloc (Nat.le_refl _) _).alloc (by simp) _).trans (hb.mono (by simp; omega))).setCell (by simp) _).setCell (by simp) _).setCell (by simp) _

def Good (L C m : Int) : Prop := 1 ≤ L ∧ L ≤ 60 ∧ 1 ≤ C ∧ C ≤ 60 ∧ (m = 0 ∨ m = 1 ∨ m = 2 ∨ m = 3)
instance (L C m : Int) : Decidable (Good L C m) := by unfold Good; infer_instance
abbrev noWay : Array Value := #[.bool false, .nilFunc, .nilFunc]
set_option maxHeartbeats 2000000 in
theorem of_bad (L C m : Int) (w : World) (h : ¬ Good L C m) :
    Calls Try.prog 19 #[.agg #[.int .i64 L, .int .i64 C], .int .i64 m] w fun e w' => e = .returned (.tuple #[.agg noWay, .bool false]) ∧ Below w.heap.size w w' := by
  by_cases hL : 1 ≤ L ∧ L ≤ 60
  · by_cases hC : 1 ≤ C ∧ C ≤ 60
    · by_cases h0 : m < 0
      · clear h
        obtain ⟨h1, h2⟩ := hL
        obtain ⟨h3, h4⟩ := hC
        go_enter Try.func19, Try.ntmps19
        go_wp2_with fail
        refine (side_yes L _ h1 h2).mono ?_
        rintro e w1 ⟨rfl, rfl⟩
        go_wp2_with fail
        refine (side_yes C _ h3 h4).mono ?_
        rintro e w1 ⟨rfl, rfl⟩
        go_wp2
        refine bodyPost_ret (v := .tuple #[.agg noWay, .bool false]) (by simp [results, Try.results19, go_sem]) rfl ⟨rfl, ?_⟩
        exact (((((Below.refl _ _).alloc (Nat.le_refl _) _).alloc (by simp) _)))
      · have h5 : 3 < m := by unfold Good at h; omega
        have h6 : decide (m < 0) = false := decide_eq_false h0
        clear h h0
        obtain ⟨h1, h2⟩ := hL
        obtain ⟨h3, h4⟩ := hC
        go_enter Try.func19, Try.ntmps19
        go_wp2_with fail
        refine (side_yes L _ h1 h2).mono ?_
        rintro e w1 ⟨rfl, rfl⟩
        go_wp2_with fail
        refine (side_yes C _ h3 h4).mono ?_
        rintro e w1 ⟨rfl, rfl⟩
        go_wp2
        refine bodyPost_ret (v := .tuple #[.agg noWay, .bool false]) (by simp [results, Try.results19, go_sem]) rfl ⟨rfl, ?_⟩
        exact (((((Below.refl _ _).alloc (Nat.le_refl _) _).alloc (by simp) _)))
    · clear h
      obtain ⟨h1, h2⟩ := hL
      go_enter Try.func19, Try.ntmps19
      go_wp2_with fail
      refine (side_yes L _ h1 h2).mono ?_
      rintro e w1 ⟨rfl, rfl⟩
      go_wp2_with fail
      refine (side_no C _ hC).mono ?_
      rintro e w1 ⟨rfl, rfl⟩
      go_wp2
      refine bodyPost_ret (v := .tuple #[.agg noWay, .bool false]) (by simp [results, Try.results19, go_sem]) rfl ⟨rfl, ?_⟩
      exact (((((Below.refl _ _).alloc (Nat.le_refl _) _).alloc (by simp) _)))
  · clear h
    go_enter Try.func19, Try.ntmps19
    go_wp2_with fail
    refine (side_no L _ hL).mono ?_
    rintro e w1 ⟨rfl, rfl⟩
    go_wp2
    refine bodyPost_ret (v := .tuple #[.agg noWay, .bool false]) (by simp [results, Try.results19, go_sem]) rfl ⟨rfl, ?_⟩
    exact (((((Below.refl _ _).alloc (Nat.le_refl _) _).alloc (by simp) _)))
def place_Sides.f (a0_0 a0_1 a1 : Int) : Option (Int × Int × Int) := if Good a0_0 a0_1 a1 then (if a1 = 1 ∨ a1 = 2 then some (a0_0, a0_1, 0) else some (a0_1, a0_0, 0)) else some (0, 0, 191)
set_option maxHeartbeats 2000000 in
theorem place_Sides.calls (a0_0 a0_1 : Int) (a1 : Int) (r1 r2 r3 : Int) (w : World) (h : place_Sides.f a0_0 a0_1 a1 = some (r1, r2, r3)) :
    Calls Try.prog 8 #[.agg #[.int .i64 a0_0, .int .i64 a0_1], .int .i64 a1] w fun e w' => e = .returned (.tuple #[.int .i64 r1, .int .i64 r2, .int .i64 r3]) ∧ Below w.heap.size w w' := by
  unfold place_Sides.f at h
  by_cases hg : Good a0_0 a0_1 a1
  · rw [if_pos hg] at h
    obtain ⟨h1, h2, h3, h4, hm⟩ := hg
    have hgood := of_good a0_0 a0_1 a1 (w.alloc (.cells #[.int .i64 a0_0, .int .i64 a0_1] 23)) h1 h2 h3 h4 hm
    clear h1 h2 h3 h4
    rcases hm with rfl | rfl | rfl | rfl
    all_goals
      simp at h
      obtain ⟨rfl, rfl, rfl⟩ := h
      simp [wayOf] at hgood
      go_enter Try.func8, Try.ntmps8
      go_wp2_with fail
      refine hgood.mono ?_
      rintro e w1 ⟨rfl, hb⟩
      clear hgood
      have c0 : w1.cell? ⟨w.heap.size, 0, none⟩ = some (.int .i64 a0_0) := ((bcell hb).1 _ _ (by simp)).trans (by simp)
      have c1 : w1.cell? ⟨w.heap.size, 1, none⟩ = some (.int .i64 a0_1) := ((bcell hb).1 _ _ (by simp)).trans (by simp)
      have hz : w.heap.size < w1.heap.size := by have := hb.size; simp at this; omega
      have hz' : ¬ (w.heap.size = w1.heap.size) := by omega
      go_wp2
      go_quiet (fail)
      go_wp2
      go_ret3
      refine ⟨rfl, pw_below_drewN ((((Below.refl _ _).alloc (Nat.le_refl _) _).trans (hb.mono (by simp))).alloc (by omega) _) _⟩
  · rw [if_neg hg] at h
    simp at h
    obtain ⟨rfl, rfl, rfl⟩ := h
    have hbad := of_bad a0_0 a0_1 a1 (w.alloc (.cells #[.int .i64 a0_0, .int .i64 a0_1] 23)) hg
    clear hg
    go_enter Try.func8, Try.ntmps8
    go_wp2_with fail
    refine hbad.mono ?_
    rintro e w1 ⟨rfl, hb⟩
    clear hbad
    obtain ⟨hc, hf⟩ := bcell hb
    have hz : w.heap.size < w1.heap.size := by have := hb.size; simp at this; omega
    go_wp2
    go_ret3
    exact ⟨rfl, ((((Below.refl _ _).alloc (Nat.le_refl _) _).trans (hb.mono (by simp))).alloc (by omega) _)⟩
end Go.Proofs.Ytfaaahchcghnlaa.P
