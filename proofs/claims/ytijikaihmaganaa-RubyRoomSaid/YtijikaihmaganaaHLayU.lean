/- ruby.Units' inner function: one unit, laid behind the others. -/
import Derived.Test.YtijikaihmaganaaP24
import Derived.Shelf.Abstract
import Derived.RangeFuncBox
import Derived.RangeFuncNested
import Derived.RangeFuncCalls
namespace Go.Proofs.Ytijikaihmaganaa.P
open Go.RowKit Go.Shelf Go.Proofs.YtijikaihmaganaaW.PrintWords Go.Proofs.YtijikaihmaganaaW.PrintLast Go.Proofs.YtijikaihmaganaaW.PrintMore
attribute [local go_sem] max2_int min2_int max_two min_two max_three min_three max_four min_four
set_option linter.unusedVariables false
set_option linter.unusedSimpArgs false

def reachU (x : S69) : Int := mn (mx x.f3 1) 128
def baseU : List S69 → Int
  | [] => 0
  | x :: r => reachU x + baseU r
/-- A unit, by its items and its scalars. -/
def unitU (items : List S69) (fr en : Nat) (sc : Int) : S49 :=
  let b := baseU ((items.take en).drop fr)
  let d := (sc + 1) / 2
  let r := if b < d then d else b
  ⟨fr, en, r, (r - b) / 2, d, (r - d) / 2, if 0 < sc then (rd_T69 items fr).f4 else -1, (rd_T69 items ((en : Int) - 1)).f5⟩
theorem reachU_in (x : S69) : 1 ≤ reachU x ∧ reachU x ≤ 128 := by
  unfold reachU mn mx
  repeat' split
  all_goals omega
theorem baseU_in : ∀ l : List S69, 0 ≤ baseU l ∧ baseU l ≤ 128 * (l.length : Int)
  | [] => by simp [baseU]
  | x :: r => by
    have := baseU_in r
    have := reachU_in x
    simp only [baseU, List.length_cons]
    omega
theorem baseU_at (l : List S69) (i : Nat) (h : i < l.length) : baseU (l.drop i) = reachU (rd_T69 l i) + baseU (l.drop (i + 1)) := by
  rw [List.drop_eq_getElem_cons h]
  have e : rd_T69 l (i : Int) = l[i] := by
    unfold rd_T69
    simp [List.getD_eq_getElem?_getD, List.getElem?_eq_getElem h]
  rw [e]
  rfl
theorem info49 : (Try.prog.info? 49).map (fun i => (i.zero, i.size, i.bytes)) = some (some (.agg #[(.int .i64 0), (.int .i64 0), (.int .i64 0), (.int .i64 0), (.int .i64 0), (.int .i64 0), (.int .i64 0), (.int .i64 0)]), 8, 64) := by kernel_rfl
/-- The state: the boxes of the items and of the row, and the row. -/
structure LS (w : World) (vI : Value) (W : World) (v : Value) (o : List S49) : Prop where
  bel : Below w.heap.size w W
  bI : Boxed W w.heap.size 46 vI
  bO : Boxed W (w.heap.size + 1) 44 v
  row : Kd.R k49 49 W (w.heap.size + 2) (fun _ => True) v o
section
variable {w W W' w1 : World} {vI v v1 : Value} {o o' : List S49}
theorem LS.below (h : LS w vI W v o) (hb : Below W.heap.size W W') : LS w vI W' v o :=
  ⟨h.bel.trans (hb.mono h.bel.size), blk_below h.bI hb, blk_below h.bO hb, Kd.R_below h.row hb⟩
theorem LS.app (h : LS w vI W v o) (hg : W.grownBy w1 v.ownBlock) (hr : Kd.R k49 49 w1 (w.heap.size + 2) (fun _ => True) v1 o') (hb : Below (w.heap.size + 2) W w1) :
    Boxed w1 (w.heap.size + 1) 44 v ∧ LS w vI (w1.setCell ⟨w.heap.size + 1, 0, none⟩ v1) v1 o' := by
  have ne : ∀ k, v.ownBlock = some k → w.heap.size + 2 ≤ k := Kd.R_base h.row
  have ne1 : ∀ k, v1.ownBlock = some k → w.heap.size + 2 ≤ k := Kd.R_base hr
  have q : ∀ B, B < w.heap.size + 2 → some B ≠ v.ownBlock := fun B hB e => by have := ne B e.symm; omega
  have b1 := h.bO.kept hg (q _ (by omega))
  have b3 := h.bI.kept hg (q _ (by omega))
  have hs : Below w.heap.size w w1 := h.bel.trans (hb.mono (by omega))
  refine ⟨b1, hs.setCell (by show w.heap.size ≤ w.heap.size + 1; omega) _, b3.other (by omega) v1, b1.set v1, ?_⟩
  exact Kd.R_grown2 hr rfl (grownBy_setCell' w1 (w.heap.size + 1) v1) (fun k hk => by cases hk; intro e; have := ne1 _ e.symm; omega)
end
theorem wp_at {P : Program} {ops : Array Oper} {Q : Exit → Act → World → Prop} {rest : List Oper} {a : Act} {W wr : World} {g : Nat} {cs : Array Value} {t : TypeId} (hbk : W.heap[g]? = some (.cells cs t (0, 0))) (hbel : Below wr.heap.size wr W)
    (h : ∀ w5 : World, w5.heap[g]? = some (.cells cs t (0, 0)) → Below wr.heap.size wr w5 → wpList P ops Q rest a w5) : wpList P ops Q rest a W := h W hbk hbel
set_option maxHeartbeats 8000000 in
set_option maxRecDepth 100000 in
theorem layU_calls (w W : World) (A0 : Option Addr) (c0 : Nat) (l0 : List S69) (v : Value) (o : List S49) (fr en : Nat) (sc : Int) (hr0 : Kd.C k69 w A0 l0.length l0) (hc0 : l0.length ≤ c0) (hl : l0.length ≤ 100000)
    (h1 : fr < en) (h2 : en ≤ l0.length) (hs0 : 0 ≤ sc) (hs1 : sc ≤ 100000) (ho : o.length ≤ 100000) (hst : LS w (.slice A0 l0.length c0) W v o) :
    Calls Try.prog 34 #[.int .i64 (fr : Int), .int .i64 (en : Int), .int .i64 sc, .pointer (some ⟨w.heap.size, 0, none⟩), .pointer (some ⟨w.heap.size + 1, 0, none⟩)] W fun e W' => e = .returned (.tuple #[]) ∧ (∃ A c, LS w (.slice A0 l0.length c0) W' (.slice A (o.length + 1) c) (o ++ [unitU l0 fr en sc])) ∧ ∀ g ob, W.heap[g]? = some ob → g ≠ w.heap.size + 1 → some g ≠ v.ownBlock → W'.heap[g]? = some ob := by
  have hu49 := Try.underlying49
  have hu69 := Try.underlying69
  have HS := Aside0.mk hst
  have HH := Aside0.mk (show fr < en ∧ en ≤ l0.length ∧ l0.length ≤ 100000 ∧ l0.length ≤ c0 ∧ o.length ≤ 100000 from ⟨h1, h2, hl, hc0, ho⟩)
  have HSC := Aside0.mk (show 0 ≤ sc ∧ sc ≤ 100000 from ⟨hs0, hs1⟩)
  obtain ⟨Av, cv, ev⟩ := Kd.R_slice hst.row
  subst ev
  have q1 := hst.bI.cell
  obtain ⟨i0, hi0, _, hsz, _⟩ := info_parts info69
  have hcut := cut_mid (P := Try.prog) 46 69 .i64 .i64 Try.underlying46 hi0 7 hsz A0 l0.length c0 (fr : Int) (en : Int) (by omega) (by omega) (by omega) hc0
  have hr := Kd.C_mid (lo := fr) (hi := en) (c := c0) hr0 (by omega) (by omega) hc0
  simp only [Int.toNat_natCast] at hcut
  obtain ⟨A1, hA1⟩ : ∃ A1, A1 = (if c0 = fr then A0 else A0.map (·.add (fr * 7))) := ⟨_, rfl⟩
  obtain ⟨c1, hc1⟩ : ∃ c1, c1 = c0 - fr := ⟨_, rfl⟩
  obtain ⟨y, hy⟩ : ∃ y, y = (l0.take en).drop fr := ⟨_, rfl⟩
  have hyl : y.length = en - fr := by rw [hy, List.length_drop, List.length_take]; omega
  replace hr : Kd.C k69 w A1 y.length y := by rw [hA1, hy]; exact hr
  rw [← hyl, ← hA1, ← hc1] at hcut
  have HR := Aside0.mk hr
  have HR0 := Aside0.mk hr0
  have HY := Aside0.mk hy
  have HYL := Aside0.mk hyl
  clear hr hr0 hy hyl hA1 hc1 hst h1 h2 hs0 hs1 hl hc0 ho hi0 hsz
  go_enter Try.func34, Try.ntmps34
  go_wp2
  go_loopg [8, 17] y.length (fun kq v8 v17 w' => ∃ (i : Nat) (b : Int), v8 = .int .i64 b ∧ v17 = .int .i64 (i : Int) ∧ Aside0 (kq + i = y.length) ∧ Aside0 (b + baseU (y.drop i) = baseU y ∧ 0 ≤ b ∧ b ≤ 128 * (i : Int)) ∧ Aside0 (LS w (.slice A0 l0.length c0) w' (.slice Av o.length cv) o) ∧ Aside0 (Below W.heap.size W w'))
  case atStart => exact ⟨0, 0, rfl, rfl, ⟨by omega⟩, ⟨by simp⟩, HS, ⟨Below.refl _ _⟩⟩
  case round =>
    obtain ⟨i, b, rfl, rfl, HI, HX, HS1, HBW⟩ := hrel
    clear HS
    by_cases ci : (i : Int) < (y.length : Int)
    · have hi : i < y.length := by omega
      obtain ⟨ad, e, hx0, hx1, hx2, hx3, hx4, hx5, hx6⟩ := at_T69 (Kd.C_below HR.out HS1.out.bel) (i : Int) (by omega) ci
      cases e
      simp only [Int.toNat_natCast] at hx0 hx1 hx2 hx3 hx4 hx5 hx6
      have hb := baseU_at y i hi
      have hri := reachU_in (rd_T69 y i)
      have cb : decide ((i : Int) < (y.length : Int)) = true := decide_eq_true ci
      have q0 : decide ((0 : Int) ≤ (i : Int)) = true := decide_eq_true (by omega)
      have HN := Aside0.mk (show b + reachU (rd_T69 y i) + baseU (y.drop (i + 1)) = baseU y ∧ 0 ≤ b + reachU (rd_T69 y i) ∧ b + reachU (rd_T69 y i) ≤ 128 * ((i + 1 : Nat) : Int) by have := HX.out; omega)
      have HW1 := Aside0.mk (show wrap64 (b + reachU (rd_T69 y i)) = b + reachU (rd_T69 y i) by have := HN.out; have := HYL.out; have := HH.out; unfold wrap64; omega)
      have HW2 := Aside0.mk (show wrap64 ((i : Int) + 1) = ((i + 1 : Nat) : Int) by have := HYL.out; have := HH.out; unfold wrap64; omega)
      have HB := Aside0.mk (Below.refl wr.heap.size wr)
      clear hb hri
      go_wp2_with (first
        | ((with_reducible refine gate_dst (N := 10) rfl ?_); refine box_event ?hg (N := 10) ?hd (cs := #[.int .i64 0, .int .i64 0, .int .i64 0, .int .i64 0, .int .i64 0, .int .i64 0, .bool false]) (t := 69) ?hr ?_; (case hd => rfl); (case hg => rfl); (case hr => first | (go_simp; done) | (go_simp; rfl)); intro g10 hg w21 hbox hb; have n0_ := Aside0.mk (below_step HB.out hb); have BK := Aside0.mk hbox; have GE := Aside0.mk ((by rw [hg]; exact Nat.le_refl _) : wr.heap.size ≤ g10); clear HB; have HB := n0_; clear n0_ hb hbox hg; have hc0 : w21.cell? ⟨g10, 0, none⟩ = some (.int .i64 0) := (blk_cell BK.out 0).trans rfl; have hc1 : w21.cell? ⟨g10, 1, none⟩ = some (.int .i64 0) := (blk_cell BK.out 1).trans rfl; have hc2 : w21.cell? ⟨g10, 2, none⟩ = some (.int .i64 0) := (blk_cell BK.out 2).trans rfl; have hc3 : w21.cell? ⟨g10, 3, none⟩ = some (.int .i64 0) := (blk_cell BK.out 3).trans rfl; have hc4 : w21.cell? ⟨g10, 4, none⟩ = some (.int .i64 0) := (blk_cell BK.out 4).trans rfl; have hc5 : w21.cell? ⟨g10, 5, none⟩ = some (.int .i64 0) := (blk_cell BK.out 5).trans rfl; have hc6 : w21.cell? ⟨g10, 6, none⟩ = some (.bool false) := (blk_cell BK.out 6).trans rfl; have hf0 := blk_frozen BK.out 0; have hf1 := blk_frozen BK.out 1; have hf2 := blk_frozen BK.out 2; have hf3 := blk_frozen BK.out 3; have hf4 := blk_frozen BK.out 4; have hf5 := blk_frozen BK.out 5; have hf6 := blk_frozen BK.out 6)
        | (go_at_call 35; (with_reducible refine (ruby_reach.calls _ _ _ _ _ _ _ (reachU (rd_T69 y i)) _ rfl).mono ?_); rintro e w5 ⟨rfl, hb5⟩; have n0_ := Aside0.mk (below_step (by repeat (first | (with_reducible first | exact HB.out | apply below_alloc | apply pw_below_drewN | apply below_drew1 | refine below_set ?_ GE.out) | exact HB.out)) hb5); clear HB hb5; have HB := n0_; clear n0_))
      go_roundg (y.length - (i + 1))
      case measure => have := HI.out; omega
      case rel => exact ⟨i + 1, b + reachU (rd_T69 y i), by rw [HW1.out], by rw [HW2.out], ⟨by omega⟩, HN, ⟨HS1.out.below HB.out⟩, ⟨below_step HBW.out HB.out⟩⟩
    · have cb : decide ((i : Int) < (y.length : Int)) = false := decide_eq_false ci
      have hd : y.drop i = [] := List.drop_eq_nil_of_le (by omega)
      have HBB := Aside0.mk (show b = baseU y by have := HX.out.1; rw [hd] at this; simp [baseU] at this; omega)
      obtain ⟨m, hm⟩ : ∃ m : Nat, m = en - 1 := ⟨_, rfl⟩
      have HM := Aside0.mk hm
      clear hm
      obtain ⟨ad, e, hz0, hz1, hz2, hz3, hz4, hz5, hz6⟩ := at_T69 (Kd.C_below HR0.out HS1.out.bel) (m : Int) (by omega) (by have := HH.out; have := HM.out; omega)
      obtain ⟨ad', e', hy0, hy1, hy2, hy3, hy4, hy5, hy6⟩ := at_T69 (Kd.C_below HR0.out HS1.out.bel) (fr : Int) (by omega) (by have := HH.out; omega)
      subst e
      obtain rfl : ad' = ad := by cases e'; rfl
      clear e' hz0 hz1 hz2 hz3 hz4 hz6 hy0 hy1 hy2 hy3 hy5 hy6
      simp only [Int.toNat_natCast] at hz5 hy4
      have w1 : wrap64 ((en : Int) - 1) = (m : Int) := by have := HH.out; have := HM.out; unfold wrap64; omega
      have w2 : wrap64 (sc + 1) = sc + 1 := by have := HSC.out; unfold wrap64; omega
      have c1 : (m < l0.length) = True := eq_true (by have := HH.out; have := HM.out; omega)
      have c2 : (fr < l0.length) = True := eq_true (by have := HH.out; omega)
      have hb2 := HBB.out
      have hbi := baseU_in y
      have hb0 : 0 ≤ b ∧ b ≤ 12800000 := by have := HYL.out; have := HH.out; omega
      obtain ⟨d, hd1⟩ : ∃ d : Int, d = (sc + 1) / 2 := ⟨_, rfl⟩
      have hd2 : 0 ≤ d ∧ d ≤ 100000 := by have := HSC.out; omega
      have w3 : wrap64 ((sc + 1).tdiv 2) = d := by
        have := HSC.out
        rw [Int.tdiv_eq_ediv_of_nonneg (by omega), ← hd1]
        unfold wrap64; omega
      obtain ⟨r, hr1⟩ : ∃ r : Int, (if b < d then d else b) = r := ⟨_, rfl⟩
      have hr2 : b ≤ r ∧ d ≤ r ∧ r ≤ 12800000 := by rw [← hr1]; split <;> omega
      have w4 : wrap64 (r - b) = r - b := by unfold wrap64; omega
      have w5 : wrap64 (r - d) = r - d := by unfold wrap64; omega
      have w6 : wrap64 ((r - b).tdiv 2) = (r - b) / 2 := by
        rw [Int.tdiv_eq_ediv_of_nonneg (by omega)]
        unfold wrap64; omega
      have w7 : wrap64 ((r - d).tdiv 2) = (r - d) / 2 := by
        rw [Int.tdiv_eq_ediv_of_nonneg (by omega)]
        unfold wrap64; omega
      have HD := Aside0.mk hd1
      have HRR := Aside0.mk (show (if b < d then d else b) = r from hr1)
      clear hd1 hd2 hr2 hb0 hbi hb2
      have q2 := HS1.out.bI.cell
      have q3 := HS1.out.bO.cell
      have HB := Aside0.mk (Below.refl wr.heap.size wr)
      clear HX HI hd
      by_cases cs : 0 < sc
      · have cs1 : decide (0 < sc) = true := decide_eq_true cs
        have q2a := fun o => (HS1.out.bI.alloc o).cell
        have q3a := fun o => (HS1.out.bO.alloc o).cell
        have q3f := fun o => (HS1.out.bO.alloc o).frozen
        have hya := fun o => ((below_alloc (Below.refl wr.heap.size wr) o).cell (World.block_lt_of_cell? wr _ hy4)).trans hy4
        go_wp2_with ((with_reducible refine gate_builtin (b := .append) (xs := #[.tmp 64, .tmp 66]) rfl ?_); at_builtin; (try simp only [w1, w2, w3, w4, w5, w6, w7]); have HB2 := Aside0.mk (below_alloc (Below.refl wr.heap.size wr) (.cells #[.int .i64 (fr : Int), .int .i64 (en : Int), .int .i64 r, .int .i64 ((r - b) / 2), .int .i64 d, .int .i64 ((r - d) / 2), .int .i64 ((rd_T69 l0 (fr : Int)).f4), .int .i64 (rd_T69 l0 (m : Int)).f5] 49)); have HS2 := Aside0.mk (HS1.out.below HB2.out); clear w1 w2 w3 w4 w5 w6 w7 hr1; refine Kd.R_append k49 (w0 := wr.alloc (.cells #[.int .i64 (fr : Int), .int .i64 (en : Int), .int .i64 r, .int .i64 ((r - b) / 2), .int .i64 d, .int .i64 ((r - d) / 2), .int .i64 ((rd_T69 l0 (fr : Int)).f4), .int .i64 (rd_T69 l0 (m : Int)).f5] 49)) (W := wr.alloc (.cells #[.int .i64 (fr : Int), .int .i64 (en : Int), .int .i64 r, .int .i64 ((r - b) / 2), .int .i64 d, .int .i64 ((r - d) / 2), .int .i64 ((rd_T69 l0 (fr : Int)).f4), .int .i64 (rd_T69 l0 (m : Int)).f5] 49)) (w.heap.size + 2) rfl (.tmp 64) (.tmp 66) 44 49 (.agg #[(.int .i64 0), (.int .i64 0), (.int .i64 0), (.int .i64 0), (.int .i64 0), (.int .i64 0), (.int .i64 0), (.int .i64 0)]) 64 rfl Try.underlying44 info49 rfl (by decide) (by omega) (.slice Av o.length cv) o (⟨(fr : Int), (en : Int), r, ((r - b) / 2), d, ((r - d) / 2), ((rd_T69 l0 (fr : Int)).f4), (rd_T69 l0 (m : Int)).f5⟩ : S49) [.int .i64 (fr : Int), .int .i64 (en : Int), .int .i64 r, .int .i64 ((r - b) / 2), .int .i64 d, .int .i64 ((r - d) / 2), .int .i64 ((rd_T69 l0 (fr : Int)).f4), .int .i64 (rd_T69 l0 (m : Int)).f5] (fun _ => True) (fun _ => False) rfl (by first | (go_simp; done) | (go_simp; rfl)) ?aP (fun _ hk => hk.elim) ?aF ?aO ?aB ?aS ?aL ?_; (case aP => exact k49_mkM _ _ _ (⟨(fr : Int), (en : Int), r, ((r - b) / 2), d, ((r - d) / 2), ((rd_T69 l0 (fr : Int)).f4), (rd_T69 l0 (m : Int)).f5⟩ : S49)); (case aB => exact Below.refl _ _); (case aF => exact (fun _ _ => trivial)); (case aO => exact HS2.out.row); (case aS => exact blk_lt HS2.out.bO); (case aL => have := HH.out; omega); intro v3 w9 ho hb hg hat; obtain ⟨A3, c3, e3⟩ := Kd.R_slice ho; have e4 : v3 = .slice A3 (o.length + 1) c3 := (by rw [e3]; simp); subst e4; clear e3; obtain ⟨b1, st2⟩ := HS2.out.app hg ho hb; have b1c := b1.cell; have b1f := b1.frozen; have HF := Aside0.mk (show ∀ g ob, (wr.alloc (.cells #[.int .i64 (fr : Int), .int .i64 (en : Int), .int .i64 r, .int .i64 ((r - b) / 2), .int .i64 d, .int .i64 ((r - d) / 2), .int .i64 ((rd_T69 l0 (fr : Int)).f4), .int .i64 (rd_T69 l0 (m : Int)).f5] 49)).heap[g]? = some ob → g ≠ w.heap.size + 1 → some g ≠ (Value.slice Av o.length cv).ownBlock → (w9.setCell ⟨w.heap.size + 1, 0, none⟩ (.slice A3 (o.length + 1) c3)).heap[g]? = some ob from fun g ob h hne hrow => (Below.heap_setCell w9 ⟨w.heap.size + 1, 0, none⟩ _ g hne).trans (blk_grown h hg hrow)); have HS3 := Aside0.mk st2; clear ho hb hg hat st2 b1)
        first | go_end0 | ((try simp only [Exit.inBlock, Exit.then]); refine bodyPost_ret (results_none rfl _ _ _) rfl ?_)
        refine ⟨rfl, ⟨A3, c3, ?_⟩, fun g ob h => HF.out g ob (blk_alloc (blk_below h HBW.out) _)⟩
        have e : unitU l0 fr en sc = ⟨fr, en, r, (r - b) / 2, d, (r - d) / 2, (rd_T69 l0 (fr : Int)).f4, (rd_T69 l0 (m : Int)).f5⟩ := by
          unfold unitU
          have g1 := HBB.out
          have g2 := HY.out
          have g3 := HM.out
          have g4 : ((en : Int) - 1) = (m : Int) := by have := HH.out; omega
          rw [← g2, ← g1, ← HD.out]
          simp only []
          rw [HRR.out, g4, if_pos cs]
        rw [e]
        exact HS3.out
      · have cs1 : decide (0 < sc) = false := decide_eq_false cs
        have q2a := fun o => (HS1.out.bI.alloc o).cell
        have q3a := fun o => (HS1.out.bO.alloc o).cell
        have q3f := fun o => (HS1.out.bO.alloc o).frozen
        have hya := fun o => ((below_alloc (Below.refl wr.heap.size wr) o).cell (World.block_lt_of_cell? wr _ hy4)).trans hy4
        go_wp2_with ((with_reducible refine gate_builtin (b := .append) (xs := #[.tmp 64, .tmp 66]) rfl ?_); at_builtin; (try simp only [w1, w2, w3, w4, w5, w6, w7]); have HB2 := Aside0.mk (below_alloc (Below.refl wr.heap.size wr) (.cells #[.int .i64 (fr : Int), .int .i64 (en : Int), .int .i64 r, .int .i64 ((r - b) / 2), .int .i64 d, .int .i64 ((r - d) / 2), .int .i64 (-1), .int .i64 (rd_T69 l0 (m : Int)).f5] 49)); have HS2 := Aside0.mk (HS1.out.below HB2.out); clear w1 w2 w3 w4 w5 w6 w7 hr1; refine Kd.R_append k49 (w0 := wr.alloc (.cells #[.int .i64 (fr : Int), .int .i64 (en : Int), .int .i64 r, .int .i64 ((r - b) / 2), .int .i64 d, .int .i64 ((r - d) / 2), .int .i64 (-1), .int .i64 (rd_T69 l0 (m : Int)).f5] 49)) (W := wr.alloc (.cells #[.int .i64 (fr : Int), .int .i64 (en : Int), .int .i64 r, .int .i64 ((r - b) / 2), .int .i64 d, .int .i64 ((r - d) / 2), .int .i64 (-1), .int .i64 (rd_T69 l0 (m : Int)).f5] 49)) (w.heap.size + 2) rfl (.tmp 64) (.tmp 66) 44 49 (.agg #[(.int .i64 0), (.int .i64 0), (.int .i64 0), (.int .i64 0), (.int .i64 0), (.int .i64 0), (.int .i64 0), (.int .i64 0)]) 64 rfl Try.underlying44 info49 rfl (by decide) (by omega) (.slice Av o.length cv) o (⟨(fr : Int), (en : Int), r, ((r - b) / 2), d, ((r - d) / 2), (-1), (rd_T69 l0 (m : Int)).f5⟩ : S49) [.int .i64 (fr : Int), .int .i64 (en : Int), .int .i64 r, .int .i64 ((r - b) / 2), .int .i64 d, .int .i64 ((r - d) / 2), .int .i64 (-1), .int .i64 (rd_T69 l0 (m : Int)).f5] (fun _ => True) (fun _ => False) rfl (by first | (go_simp; done) | (go_simp; rfl)) ?aP (fun _ hk => hk.elim) ?aF ?aO ?aB ?aS ?aL ?_; (case aP => exact k49_mkM _ _ _ (⟨(fr : Int), (en : Int), r, ((r - b) / 2), d, ((r - d) / 2), (-1), (rd_T69 l0 (m : Int)).f5⟩ : S49)); (case aB => exact Below.refl _ _); (case aF => exact (fun _ _ => trivial)); (case aO => exact HS2.out.row); (case aS => exact blk_lt HS2.out.bO); (case aL => have := HH.out; omega); intro v3 w9 ho hb hg hat; obtain ⟨A3, c3, e3⟩ := Kd.R_slice ho; have e4 : v3 = .slice A3 (o.length + 1) c3 := (by rw [e3]; simp); subst e4; clear e3; obtain ⟨b1, st2⟩ := HS2.out.app hg ho hb; have b1c := b1.cell; have b1f := b1.frozen; have HF := Aside0.mk (show ∀ g ob, (wr.alloc (.cells #[.int .i64 (fr : Int), .int .i64 (en : Int), .int .i64 r, .int .i64 ((r - b) / 2), .int .i64 d, .int .i64 ((r - d) / 2), .int .i64 (-1), .int .i64 (rd_T69 l0 (m : Int)).f5] 49)).heap[g]? = some ob → g ≠ w.heap.size + 1 → some g ≠ (Value.slice Av o.length cv).ownBlock → (w9.setCell ⟨w.heap.size + 1, 0, none⟩ (.slice A3 (o.length + 1) c3)).heap[g]? = some ob from fun g ob h hne hrow => (Below.heap_setCell w9 ⟨w.heap.size + 1, 0, none⟩ _ g hne).trans (blk_grown h hg hrow)); have HS3 := Aside0.mk st2; clear ho hb hg hat st2 b1)
        first | go_end0 | ((try simp only [Exit.inBlock, Exit.then]); refine bodyPost_ret (results_none rfl _ _ _) rfl ?_)
        refine ⟨rfl, ⟨A3, c3, ?_⟩, fun g ob h => HF.out g ob (blk_alloc (blk_below h HBW.out) _)⟩
        have e : unitU l0 fr en sc = ⟨fr, en, r, (r - b) / 2, d, (r - d) / 2, -1, (rd_T69 l0 (m : Int)).f5⟩ := by
          unfold unitU
          have g1 := HBB.out
          have g2 := HY.out
          have g3 := HM.out
          have g4 : ((en : Int) - 1) = (m : Int) := by have := HH.out; omega
          rw [← g2, ← g1, ← HD.out]
          simp only []
          rw [HRR.out, g4, if_neg (show ¬ 0 < sc by omega)]
        rw [e]
        exact HS3.out
end Go.Proofs.Ytijikaihmaganaa.P
