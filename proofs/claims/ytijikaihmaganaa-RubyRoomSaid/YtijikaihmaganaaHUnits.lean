/- ruby.Units: the units, one behind the other. -/
import Derived.Test.YtijikaihmaganaaHBeside
import Derived.Test.YtijikaihmaganaaHLayU
namespace Go.Proofs.Ytijikaihmaganaa.P
open Go.RowKit Go.Shelf Go.Proofs.YtijikaihmaganaaW.PrintWords Go.Proofs.YtijikaihmaganaaW.PrintLast Go.Proofs.YtijikaihmaganaaW.PrintMore
set_option linter.unusedVariables false
set_option linter.unusedSimpArgs false

/-- Does an item go on with what is ahead? -/
def goesU (items : List S69) (fr i : Nat) (sc : Int) : Prop := fr < i ∧ 0 < sc ∧ (rd_T69 items i).f4 = (rd_T69 items fr).f4 ∧ ¬ (rd_T69 items ((i - 1 : Nat) : Int)).f5 = 2
instance (items : List S69) (fr i : Nat) (sc : Int) : Decidable (goesU items fr i sc) := by unfold goesU; infer_instance
def unitsG (items : List S69) (l : List S68) : Nat → Nat → Nat → Int → List S49 → Option (List S49)
  | 0, i, fr, sc, o => if fr < items.length then some (o ++ [unitU items fr items.length sc]) else some o
  | d + 1, i, fr, sc, o =>
    if goesU items fr i sc then unitsG items l d (i + 1) fr sc o
    else (ruby_beside.f l (rd_T69 items i).f4).bind fun k => if k ≤ 100000 then unitsG items l d (i + 1) i k (if 0 < i then o ++ [unitU items fr i sc] else o) else none
def ruby_Units.f (items : List S69) (l : List S68) : Option (List S49) := if items.length ≤ 100000 then unitsG items l items.length 0 0 0 [] else none
theorem beside_nonneg {l : List S68} {n r : Int} (h : ruby_beside.f l n = some r) : 0 ≤ r := by
  unfold ruby_beside.f at h
  repeat' split at h
  · injection h with h; omega
  · injection h with h; omega
  · obtain ⟨x, _, h⟩ := Option.bind_eq_some_iff.mp h
    injection h with h; omega
  · cases h
theorem LS.start (w : World) (vI : Value) : LS w vI ((w.alloc (.cells #[vI] 46)).alloc (.cells #[.slice none 0 0] 44)) (.slice none 0 0) [] := by
  have e4 : Boxed ((w.alloc (.cells #[vI] 46)).alloc (.cells #[.slice none 0 0] 44)) (w.heap.size + 1) 44 (.slice none 0 0) := by
    have := Boxed.new (w.alloc (.cells #[vI] 46)) 44 (.slice none 0 0)
    rwa [World.size_alloc] at this
  exact ⟨below_alloc (below_alloc (Below.refl _ _) _) _, (Boxed.new w 46 _).alloc _, e4, Kd.R_nil _ _ _ _ _⟩
set_option maxHeartbeats 2000000 in
set_option maxRecDepth 100000 in
theorem ruby_Units.calls (A0 : Option Addr) (c0 : Nat) (l0 : List S69) (A1 : Option Addr) (c1 : Nat) (l1 : List S68) (r : List S49) (w : World) (hr0 : Kd.C k69 w A0 l0.length l0) (hc0 : l0.length ≤ c0) (hr1 : Kd.C k68 w A1 l1.length l1) (hc1 : l1.length ≤ c1) (h : ruby_Units.f l0 l1 = some r) :
    Calls Try.prog 24 #[.slice A0 l0.length c0, .slice A1 l1.length c1] w fun e w' => ∃ v0_ : Value, e = .returned v0_ ∧ Kd.R k49 49 w' w.heap.size (fun _ => True) v0_ r ∧ Below w.heap.size w w' := by
  have hu69 := Try.underlying69
  unfold ruby_Units.f at h
  by_cases hl : l0.length ≤ 100000
  case neg => rw [if_neg hl] at h; cases h
  rw [if_pos hl] at h
  have HR0 := Aside0.mk hr0
  have HR1 := Aside0.mk hr1
  have HL := Aside0.mk (show l0.length ≤ 100000 ∧ l0.length ≤ c0 ∧ l1.length ≤ c1 from ⟨hl, hc0, hc1⟩)
  have H := Aside0.mk h
  clear hr0 hr1 hc0 hc1 hl h
  have hmf : ∀ (fn : Fn) (first cap : Array Value) (w : World), (Instr.makeFunc fn first cap).run Try.prog w = .ok (.func fn first cap) w := fun _ _ _ _ => rfl
  have q0 := (LS.start w (.slice A0 l0.length c0)).bI.cell
  go_enter Try.func24, Try.ntmps24
  go_wp2
  go_loopg [7, 8, 15] l0.length (fun kq v7 v8 v15 w' => ∃ (i fr : Nat) (sc : Int) (o : List S49) (A : Option Addr) (c : Nat), v7 = .int .i64 (fr : Int) ∧ v8 = .int .i64 sc ∧ v15 = .int .i64 (i : Int) ∧ Aside0 (kq + i = l0.length) ∧ Aside0 (unitsG l0 l1 kq i fr sc o = some r) ∧ Aside0 (fr ≤ i ∧ (0 < i → fr < i) ∧ o.length ≤ i ∧ 0 ≤ sc ∧ sc ≤ 100000) ∧ Aside0 (LS w (.slice A0 l0.length c0) w' (.slice A o.length c) o))
  case atStart => exact ⟨0, 0, 0, [], none, 0, rfl, rfl, rfl, ⟨by omega⟩, H, ⟨by simp⟩, ⟨LS.start w _⟩⟩
  case round =>
    obtain ⟨i, fr, sc, o, A, c, rfl, rfl, rfl, HI, HX, HF, HS⟩ := hrel
    by_cases ci : (i : Int) < (l0.length : Int)
    · have hi : i < l0.length := by omega
      obtain ⟨d, rfl⟩ : ∃ d, gk = d + 1 := ⟨gk - 1, by have := HI.out; omega⟩
      obtain ⟨m, hm⟩ : ∃ m : Nat, m = i - 1 := ⟨_, rfl⟩
      obtain ⟨ad, e, hx0, hx1, hx2, hx3, hx4, hx5, hx6⟩ := at_T69 (Kd.C_below HR0.out HS.out.bel) (i : Int) (by omega) (by omega)
      obtain ⟨ad1, e1, hy0, hy1, hy2, hy3, hy4, hy5, hy6⟩ := at_T69 (Kd.C_below HR0.out HS.out.bel) (fr : Int) (by omega) (by have := HF.out; omega)
      obtain ⟨ad2, e2, hz0, hz1, hz2, hz3, hz4, hz5, hz6⟩ := at_T69 (Kd.C_below HR0.out HS.out.bel) (m : Int) (by omega) (by omega)
      subst e
      obtain rfl : ad1 = ad := by cases e1; rfl
      obtain rfl : ad2 = ad1 := by cases e2; rfl
      simp only [Int.toNat_natCast] at hx0 hx1 hx2 hx3 hx4 hx5 hx6 hy4 hz5
      have hya := fun o => ((below_alloc (Below.refl wr.heap.size wr) o).cell (World.block_lt_of_cell? wr _ hy4)).trans hy4
      have hza := fun o => ((below_alloc (Below.refl wr.heap.size wr) o).cell (World.block_lt_of_cell? wr _ hz5)).trans hz5
      have q1 := HS.out.bI.cell
      have q2 := HS.out.bO.cell
      have q1a := fun o => (HS.out.bI.alloc o).cell
      have q2a := fun o => (HS.out.bO.alloc o).cell
      have cb : decide ((i : Int) < (l0.length : Int)) = true := decide_eq_true ci
      have ci1 : (i < l0.length) = True := eq_true hi
      have ci2 : (fr < l0.length) = True := eq_true (by have := HF.out; omega)
      have ci3 : (m < l0.length) = True := eq_true (by omega)
      clear e1 e2 hy0 hy1 hy2 hy3 hy4 hy5 hy6 hz0 hz1 hz2 hz3 hz4 hz5 hz6
      have HWI := Aside0.mk (show wrap64 ((i : Int) + 1) = ((i + 1 : Nat) : Int) by have := HL.out; unfold wrap64; omega)
      have hx := HX.out
      rw [unitsG] at hx
      by_cases g1 : fr < i
      · have cg : decide ((0 : Int) < (i : Int)) = true := decide_eq_true (by omega)
        have cfi : decide ((fr : Int) < (i : Int)) = true := decide_eq_true (by omega)
        have cfe : ((fr : Int) == (i : Int)) = false := by simp; omega
        have w1 : wrap64 ((i : Int) - 1) = (m : Int) := by have := HL.out; unfold wrap64; omega
        have w2 : IntKind.i64.wrap ((i : Int) - 1) = (m : Int) := by first | exact w1 | (simp only [IntKind.wrap_i64]; exact w1) | (rw [IntWalk.i64_left]; exact w1) | (have := HL.out; clear w1; simp only [IntKind.wrap_i64]; omega)
        have w3 : IntKind.i64.wrap ((i : Int) - 1) = (i : Int) - 1 := by have := HL.out; clear w1 w2; simp only [IntKind.wrap_i64]; omega
        clear w1 w2
        have w1 : (i : Int) - 1 = (m : Int) := by omega
        have w2 := w3
        clear w3
        have hidx : ∀ W : World, (Instr.indexAt 46 (.slice (some ad2) l0.length c0) (.int .i64 (IntKind.i64.wrap ((i : Int) - 1)))).run Try.prog W = .ok (.pointer (some (ad2.add (m * 7)))) W := by intro W; clear hm; rw [w2, w1]; go_simp
        have w4 : IntKind.i64.wrap (m : Int) = (m : Int) := by rw [← w1]; exact w2
        have HG := Aside0.mk g1
        have HHI := Aside0.mk hi
        by_cases g2 : 0 < sc
        · have cs : decide (0 < sc) = true := decide_eq_true g2
          by_cases g3 : (rd_T69 l0 (i : Int)).f4 = (rd_T69 l0 (fr : Int)).f4
          · have c3 : ((rd_T69 l0 (i : Int)).f4 == (rd_T69 l0 (fr : Int)).f4) = true := beq_iff_eq.mpr g3
            by_cases g4 : (rd_T69 l0 (m : Int)).f5 = 2
            · have c4 : ((rd_T69 l0 (m : Int)).f5 != 2) = false := bne_eq_false_iff_eq.mpr g4
              rw [if_neg (by rintro ⟨_, _, _, h⟩; rw [← hm] at h; exact h g4)] at hx
              obtain ⟨k, hk, hx⟩ := Option.bind_eq_some_iff.mp hx
              have hk0 := beside_nonneg hk
              by_cases hk1 : k ≤ 100000
              case neg => rw [if_neg hk1] at hx; cases hx
              rw [if_pos hk1, if_pos (by omega)] at hx
              have HK := Aside0.mk hk
              have HX2 := Aside0.mk hx
              have HK1 := Aside0.mk (show 0 ≤ k ∧ k ≤ 100000 from ⟨hk0, hk1⟩)
              clear hk hk0 hk1 hx HX hm
              clear g3 g4
              go_wp2
              go_quiet (fail)
              go_wp2_with (first | (go_at_call 34; have HB2 := Aside0.mk (pw_below_drewN (below_alloc (Below.refl wr.heap.size wr) (.cells #[.int .i64 (rd_T69 l0 (i : Int)).f0, .int .i64 (rd_T69 l0 (i : Int)).f1, .int .i64 (rd_T69 l0 (i : Int)).f2, .int .i64 (rd_T69 l0 (i : Int)).f3, .int .i64 (rd_T69 l0 (i : Int)).f4, .int .i64 (rd_T69 l0 (i : Int)).f5, .bool (rd_T69 l0 (i : Int)).f6] 69)) nq); have HS2 := Aside0.mk (HS.out.below HB2.out); refine (layU_calls w _ (some ad2) c0 l0 (.slice A o.length c) o fr i sc HR0.out HL.out.2.1 HL.out.1 HG.out (Nat.le_of_lt HHI.out) HF.out.2.2.2.1 HF.out.2.2.2.2 (by have := HF.out; have := HL.out; have := HHI.out; omega) HS2.out).mono ?_; rintro e w7 ⟨rfl, ⟨A2, c2, hs3⟩, hfr⟩; have HS3 := Aside0.mk hs3; have bk := blk_drewN (blk_new wr (.cells #[.int .i64 (rd_T69 l0 (i : Int)).f0, .int .i64 (rd_T69 l0 (i : Int)).f1, .int .i64 (rd_T69 l0 (i : Int)).f2, .int .i64 (rd_T69 l0 (i : Int)).f3, .int .i64 (rd_T69 l0 (i : Int)).f4, .int .i64 (rd_T69 l0 (i : Int)).f5, .bool (rd_T69 l0 (i : Int)).f6] 69)) nq; have bk2 := hfr wr.heap.size _ bk (by have := blk_lt HS.out.bO; omega) (Kd.R_ne HS2.out.row bk (by decide)); have hcx : w7.cell? ⟨wr.heap.size, 4, none⟩ = some (.int .i64 (rd_T69 l0 (i : Int)).f4) := (blk_cell bk2 4).trans rfl; clear hs3 hfr bk bk2 w1 w2) | (go_at_call 36; refine (ruby_beside.calls A1 c1 l1 _ k _ (Kd.C_below HR1.out HS3.out.bel) HL.out.2.2 HK.out).mono ?_; rintro e w2 ⟨rfl, hb2⟩; have HS4 := Aside0.mk (HS3.out.below hb2); clear hb2))
              go_roundg d
              case measure => have := HI.out; omega
              case rel => exact ⟨i + 1, i, k, o ++ [unitU l0 fr i sc], A2, c2, rfl, rfl, by rw [HWI.out], ⟨by have := HI.out; omega⟩, HX2, ⟨by have := HF.out; have := HK1.out; simp only [List.length_append, List.length_cons, List.length_nil]; omega⟩, ⟨by have := HS4.out; simpa using this⟩⟩
            · have c4 : ((rd_T69 l0 (m : Int)).f5 != 2) = true := bne_iff_ne.mpr g4
              rw [if_pos ⟨g1, g2, g3, by rw [← hm]; exact g4⟩] at hx
              have HX2 := Aside0.mk hx
              clear hx HX g3 g4 hm
              go_wp2
              go_quiet (fail)
              go_wp2
              go_roundg d
              case measure => have := HI.out; omega
              case rel => exact ⟨i + 1, fr, sc, o, A, c, rfl, rfl, by rw [HWI.out], ⟨by have := HI.out; omega⟩, HX2, ⟨by have := HF.out; have := HG.out; omega⟩, ⟨HS.out.below (pw_below_drewN (below_alloc (Below.refl wr.heap.size wr) _) nq)⟩⟩
          · have c3 : ((rd_T69 l0 (i : Int)).f4 == (rd_T69 l0 (fr : Int)).f4) = false := beq_eq_false_iff_ne.mpr g3
            rw [if_neg (by rintro ⟨_, _, h, _⟩; exact g3 h)] at hx
            obtain ⟨k, hk, hx⟩ := Option.bind_eq_some_iff.mp hx
            have hk0 := beside_nonneg hk
            by_cases hk1 : k ≤ 100000
            case neg => rw [if_neg hk1] at hx; cases hx
            rw [if_pos hk1, if_pos (by omega)] at hx
            have HK := Aside0.mk hk
            have HX2 := Aside0.mk hx
            have HK1 := Aside0.mk (show 0 ≤ k ∧ k ≤ 100000 from ⟨hk0, hk1⟩)
            clear hk hk0 hk1 hx HX hm
            clear g3
            go_wp2
            go_quiet (fail)
            go_wp2_with (first | (go_at_call 34; have HB2 := Aside0.mk (pw_below_drewN (below_alloc (Below.refl wr.heap.size wr) (.cells #[.int .i64 (rd_T69 l0 (i : Int)).f0, .int .i64 (rd_T69 l0 (i : Int)).f1, .int .i64 (rd_T69 l0 (i : Int)).f2, .int .i64 (rd_T69 l0 (i : Int)).f3, .int .i64 (rd_T69 l0 (i : Int)).f4, .int .i64 (rd_T69 l0 (i : Int)).f5, .bool (rd_T69 l0 (i : Int)).f6] 69)) nq); have HS2 := Aside0.mk (HS.out.below HB2.out); refine (layU_calls w _ (some ad2) c0 l0 (.slice A o.length c) o fr i sc HR0.out HL.out.2.1 HL.out.1 HG.out (Nat.le_of_lt HHI.out) HF.out.2.2.2.1 HF.out.2.2.2.2 (by have := HF.out; have := HL.out; have := HHI.out; omega) HS2.out).mono ?_; rintro e w7 ⟨rfl, ⟨A2, c2, hs3⟩, hfr⟩; have HS3 := Aside0.mk hs3; have bk := blk_drewN (blk_new wr (.cells #[.int .i64 (rd_T69 l0 (i : Int)).f0, .int .i64 (rd_T69 l0 (i : Int)).f1, .int .i64 (rd_T69 l0 (i : Int)).f2, .int .i64 (rd_T69 l0 (i : Int)).f3, .int .i64 (rd_T69 l0 (i : Int)).f4, .int .i64 (rd_T69 l0 (i : Int)).f5, .bool (rd_T69 l0 (i : Int)).f6] 69)) nq; have bk2 := hfr wr.heap.size _ bk (by have := blk_lt HS.out.bO; omega) (Kd.R_ne HS2.out.row bk (by decide)); have hcx : w7.cell? ⟨wr.heap.size, 4, none⟩ = some (.int .i64 (rd_T69 l0 (i : Int)).f4) := (blk_cell bk2 4).trans rfl; clear hs3 hfr bk bk2 w1 w2) | (go_at_call 36; refine (ruby_beside.calls A1 c1 l1 _ k _ (Kd.C_below HR1.out HS3.out.bel) HL.out.2.2 HK.out).mono ?_; rintro e w2 ⟨rfl, hb2⟩; have HS4 := Aside0.mk (HS3.out.below hb2); clear hb2))
            go_roundg d
            case measure => have := HI.out; omega
            case rel => exact ⟨i + 1, i, k, o ++ [unitU l0 fr i sc], A2, c2, rfl, rfl, by rw [HWI.out], ⟨by have := HI.out; omega⟩, HX2, ⟨by have := HF.out; have := HK1.out; simp only [List.length_append, List.length_cons, List.length_nil]; omega⟩, ⟨by have := HS4.out; simpa using this⟩⟩
        · have cs : decide (0 < sc) = false := decide_eq_false g2
          rw [if_neg (by rintro ⟨_, h, _⟩; exact g2 h)] at hx
          obtain ⟨k, hk, hx⟩ := Option.bind_eq_some_iff.mp hx
          have hk0 := beside_nonneg hk
          by_cases hk1 : k ≤ 100000
          case neg => rw [if_neg hk1] at hx; cases hx
          rw [if_pos hk1, if_pos (by omega)] at hx
          have HK := Aside0.mk hk
          have HX2 := Aside0.mk hx
          have HK1 := Aside0.mk (show 0 ≤ k ∧ k ≤ 100000 from ⟨hk0, hk1⟩)
          clear hk hk0 hk1 hx HX hm
          have G2 := Aside0.mk g2
          go_wp2
          go_quiet (fail)
          go_wp2_with (first | (go_at_call 34; have HB2 := Aside0.mk (pw_below_drewN (below_alloc (Below.refl wr.heap.size wr) (.cells #[.int .i64 (rd_T69 l0 (i : Int)).f0, .int .i64 (rd_T69 l0 (i : Int)).f1, .int .i64 (rd_T69 l0 (i : Int)).f2, .int .i64 (rd_T69 l0 (i : Int)).f3, .int .i64 (rd_T69 l0 (i : Int)).f4, .int .i64 (rd_T69 l0 (i : Int)).f5, .bool (rd_T69 l0 (i : Int)).f6] 69)) nq); have HS2 := Aside0.mk (HS.out.below HB2.out); refine (layU_calls w _ (some ad2) c0 l0 (.slice A o.length c) o fr i sc HR0.out HL.out.2.1 HL.out.1 HG.out (Nat.le_of_lt HHI.out) HF.out.2.2.2.1 HF.out.2.2.2.2 (by have := HF.out; have := HL.out; have := HHI.out; omega) HS2.out).mono ?_; rintro e w7 ⟨rfl, ⟨A2, c2, hs3⟩, hfr⟩; have HS3 := Aside0.mk hs3; have bk := blk_drewN (blk_new wr (.cells #[.int .i64 (rd_T69 l0 (i : Int)).f0, .int .i64 (rd_T69 l0 (i : Int)).f1, .int .i64 (rd_T69 l0 (i : Int)).f2, .int .i64 (rd_T69 l0 (i : Int)).f3, .int .i64 (rd_T69 l0 (i : Int)).f4, .int .i64 (rd_T69 l0 (i : Int)).f5, .bool (rd_T69 l0 (i : Int)).f6] 69)) nq; have bk2 := hfr wr.heap.size _ bk (by have := blk_lt HS.out.bO; omega) (Kd.R_ne HS2.out.row bk (by decide)); have hcx : w7.cell? ⟨wr.heap.size, 4, none⟩ = some (.int .i64 (rd_T69 l0 (i : Int)).f4) := (blk_cell bk2 4).trans rfl; clear hs3 hfr bk bk2 w1 w2) | (go_at_call 36; refine (ruby_beside.calls A1 c1 l1 _ k _ (Kd.C_below HR1.out HS3.out.bel) HL.out.2.2 HK.out).mono ?_; rintro e w2 ⟨rfl, hb2⟩; have HS4 := Aside0.mk (HS3.out.below hb2); clear hb2))
          go_roundg d
          case measure => have := HI.out; omega
          case rel => exact ⟨i + 1, i, k, o ++ [unitU l0 fr i sc], A2, c2, rfl, rfl, by rw [HWI.out], ⟨by have := HI.out; omega⟩, HX2, ⟨by have := HF.out; have := HK1.out; simp only [List.length_append, List.length_cons, List.length_nil]; omega⟩, ⟨by have := HS4.out; simpa using this⟩⟩
      · obtain rfl : fr = i := by have := HF.out; omega
        have hi0 : fr = 0 := by have := HF.out; omega
        have cg : decide ((0 : Int) < (fr : Int)) = false := by simp [hi0]
        have cg2 : (0 < fr) = False := eq_false (by omega)
        rw [if_neg (by unfold goesU; omega)] at hx
        obtain ⟨k, hk, hx⟩ := Option.bind_eq_some_iff.mp hx
        have hk0 := beside_nonneg hk
        by_cases hk1 : k ≤ 100000
        case neg => rw [if_neg hk1] at hx; cases hx
        rw [if_pos hk1, if_neg (by omega)] at hx
        have HK := Aside0.mk hk
        have HX2 := Aside0.mk hx
        have HK1 := Aside0.mk (show 0 ≤ k ∧ k ≤ 100000 from ⟨hk0, hk1⟩)
        clear hk hk0 hk1 hx HX hm
        have HI0 := Aside0.mk hi0
        clear hi0
        go_wp2
        go_quiet (fail)
        go_wp2_with (go_at_call 36; have HB2 := Aside0.mk (pw_below_drewN (below_alloc (Below.refl wr.heap.size wr) (.cells #[.int .i64 (rd_T69 l0 (fr : Int)).f0, .int .i64 (rd_T69 l0 (fr : Int)).f1, .int .i64 (rd_T69 l0 (fr : Int)).f2, .int .i64 (rd_T69 l0 (fr : Int)).f3, .int .i64 (rd_T69 l0 (fr : Int)).f4, .int .i64 (rd_T69 l0 (fr : Int)).f5, .bool (rd_T69 l0 (fr : Int)).f6] 69)) nq); have HS2 := Aside0.mk (HS.out.below HB2.out); refine (ruby_beside.calls A1 c1 l1 _ k _ (Kd.C_below HR1.out HS2.out.bel) HL.out.2.2 HK.out).mono ?_; rintro e w2 ⟨rfl, hb2⟩; have HS4 := Aside0.mk (HS2.out.below hb2); clear hb2)
        go_roundg d
        case measure => have := HI.out; omega
        case rel => exact ⟨fr + 1, fr, k, o, A, c, rfl, rfl, by rw [HWI.out], ⟨by have := HI.out; omega⟩, HX2, ⟨by have := HF.out; have := HK1.out; omega⟩, HS4⟩
    · have cb : decide ((i : Int) < (l0.length : Int)) = false := decide_eq_false ci
      have hi : i = l0.length := by have := HI.out; omega
      obtain rfl : gk = 0 := by have := HI.out; omega
      have hx := HX.out
      rw [unitsG] at hx
      have q1 := HS.out.bI.cell
      have q2 := HS.out.bO.cell
      by_cases cf : fr < l0.length
      · rw [if_pos cf] at hx
        obtain rfl := Option.some.inj hx
        have cfb : decide ((fr : Int) < (l0.length : Int)) = true := decide_eq_true (by omega)
        have hlay := layU_calls w wr A0 c0 l0 (.slice A o.length c) o fr l0.length sc HR0.out HL.out.2.1 HL.out.1 cf (Nat.le_refl _) HF.out.2.2.2.1 HF.out.2.2.2.2 (by have := HF.out; have := HL.out; omega) HS.out
        clear hx HX
        go_wp2_with (go_at_call 34; refine hlay.mono ?_; rintro e w1 ⟨rfl, ⟨A2, c2, hs2⟩, _⟩; have HS2 := Aside0.mk hs2; have q3 := hs2.bO.cell; clear hs2)
        go_ret
        exact ⟨_, rfl, Kd.R_lower HS2.out.row (by omega), HS2.out.bel⟩
      · rw [if_neg cf] at hx
        obtain rfl := Option.some.inj hx
        have cfb : decide ((fr : Int) < (l0.length : Int)) = false := decide_eq_false (by omega)
        clear hx HX
        go_wp2
        go_ret
        exact ⟨_, rfl, Kd.R_lower HS.out.row (by omega), HS.out.bel⟩
end Go.Proofs.Ytijikaihmaganaa.P
