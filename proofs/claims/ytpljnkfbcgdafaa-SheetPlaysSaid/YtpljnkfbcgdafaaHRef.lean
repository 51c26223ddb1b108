/- The document's sheet in memory; its At. -/
import Derived.Test.YtpljnkfbcgdafaaHSheet
import Derived.Test.YtpljnkfbcgdafaaP41
import Derived.Test.YtpljnkfbcgdafaaP43
namespace Go.Proofs.Ytpljnkfbcgdafaa.P
open Go.RowKit Go.Shelf Go.Proofs.YtpljnkfbcgdafaaW.PrintWords Go.Proofs.YtpljnkfbcgdafaaW.PrintLast Go.Proofs.YtpljnkfbcgdafaaW.PrintMore
set_option linter.unusedVariables false
set_option linter.unusedSimpArgs false

def inF (h : S32) (x y : Int) : Bool := (frisketref20_in.f h.f0 h.f1 h.f2 h.f3 x y).getD false
theorem in_some (h : S32) (x y : Int) : frisketref20_in.f h.f0 h.f1 h.f2 h.f3 x y = some (inF h x y) := by
  have : ∃ b, frisketref20_in.f h.f0 h.f1 h.f2 h.f3 x y = some b := by
    unfold frisketref20_in.f
    repeat' split
    all_goals exact ⟨_, rfl⟩
  obtain ⟨b, hb⟩ := this
  unfold inF
  rw [hb]; rfl
def findV : List S59 → Int → Int → Int
  | [], _, _ => 0
  | h :: r, x, y => if inF h.f0 x y = true then h.f1 else findV r x y
def rAt (W H : Int) (l : List S59) (x y : Int) : Int := if x < 0 ∨ y < 0 ∨ W ≤ x ∨ H ≤ y then 0 else findV l x y
theorem findV_at (l : List S59) (x y : Int) (i : Nat) (h : i < l.length) : findV (l.drop i) x y = if inF (rd_T59 l i).f0 x y = true then (rd_T59 l i).f1 else findV (l.drop (i + 1)) x y := by
  rw [List.drop_eq_getElem_cons h]
  have e : rd_T59 l (i : Int) = l[i] := by
    unfold rd_T59
    simp [List.getD_eq_getElem?_getD, List.getElem?_eq_getElem h]
  rw [e]
  rfl
/-- The document's sheet lies at block g. -/
def RSh (w : World) (g : Nat) (W H : Int) (l : List S59) : Prop := ∃ A c, w.heap[g]? = some (.cells #[.int .i64 W, .int .i64 H, .slice A l.length c] 55 (0, 0)) ∧ Kd.C k59 w A l.length l ∧ l.length ≤ c
theorem RSh.lt {w : World} {g : Nat} {W H : Int} {l : List S59} (h : RSh w g W H l) : g < w.heap.size := by obtain ⟨A, c, h, _⟩ := h; exact blk_lt h
theorem RSh.below {w w' : World} {g : Nat} {W H : Int} {l : List S59} (h : RSh w g W H l) (hb : Below w.heap.size w w') : RSh w' g W H l := by
  obtain ⟨A, c, h, hC, hc⟩ := h
  exact ⟨A, c, blk_below h hb, Kd.C_below hC hb, hc⟩
set_option maxHeartbeats 4000000 in
set_option maxRecDepth 100000 in
theorem RAt.calls (g : Nat) (W H : Int) (l : List S59) (x y : Int) (w : World) (h : RSh w g W H l) (hl : l.length ≤ 1000000) :
    Calls Try.prog 19 #[.pointer (some ⟨g, 0, none⟩), .int .i64 x, .int .i64 y] w fun e w' => e = .returned (.int .i64 (rAt W H l x y)) ∧ Below w.heap.size w w' := by
  have hu55 := Try.underlying55
  have hu59 := Try.underlying59
  have hu32 := Try.underlying32
  obtain ⟨A, c, hb, hC, hc⟩ := h
  have HBk := Aside0.mk hb
  have HC := Aside0.mk hC
  have HCC := Aside0.mk hc
  have HL := Aside0.mk hl
  have c0 := cI hb 0 (v := .int .i64 W) rfl
  have c1 := cI hb 1 (v := .int .i64 H) rfl
  have c2 := cI hb 2 (v := .slice A l.length c) rfl
  clear hb hC hc hl
  by_cases h1 : x < 0
  · have e : rAt W H l x y = 0 := if_pos (.inl h1)
    rw [e]
    go_enter Try.func19, Try.ntmps19
    go_wp2
    go_ret
    exact ⟨rfl, Below.refl _ _⟩
  by_cases h2 : y < 0
  · have e : rAt W H l x y = 0 := if_pos (.inr (.inl h2))
    rw [e]
    have b1 : decide (x < 0) = false := decide_eq_false h1
    go_enter Try.func19, Try.ntmps19
    go_wp2
    go_ret
    exact ⟨rfl, Below.refl _ _⟩
  by_cases h3 : W ≤ x
  · have e : rAt W H l x y = 0 := if_pos (.inr (.inr (.inl h3)))
    rw [e]
    have b1 : decide (x < 0) = false := decide_eq_false h1
    have b2 : decide (y < 0) = false := decide_eq_false h2
    go_enter Try.func19, Try.ntmps19
    go_wp2
    go_ret
    exact ⟨rfl, Below.refl _ _⟩
  by_cases h4 : H ≤ y
  · have e : rAt W H l x y = 0 := if_pos (.inr (.inr (.inr h4)))
    rw [e]
    have b1 : decide (x < 0) = false := decide_eq_false h1
    have b2 : decide (y < 0) = false := decide_eq_false h2
    have b3 : decide (W ≤ x) = false := decide_eq_false h3
    go_enter Try.func19, Try.ntmps19
    go_wp2
    go_ret
    exact ⟨rfl, Below.refl _ _⟩
  have e : rAt W H l x y = findV l x y := if_neg (by omega)
  rw [e]
  have b1 : decide (x < 0) = false := decide_eq_false h1
  have b2 : decide (y < 0) = false := decide_eq_false h2
  have b3 : decide (W ≤ x) = false := decide_eq_false h3
  have b4 : decide (H ≤ y) = false := decide_eq_false h4
  clear e h1 h2 h3 h4
  go_enter Try.func19, Try.ntmps19
  go_wp2
  go_loopg [7] l.length (fun kq v7 wr => ∃ (i : Nat), v7 = .int .i64 (i : Int) ∧ Aside0 (i + kq = l.length) ∧ Aside0 (findV (l.drop i) x y = findV l x y) ∧ Aside0 (Below w.heap.size w wr))
  case atStart => exact ⟨0, rfl, ⟨by omega⟩, ⟨rfl⟩, ⟨Below.refl _ _⟩⟩
  case round =>
    obtain ⟨i, rfl, HI, HV, HB⟩ := hrel
    have hbr := blk_below HBk.out HB.out
    have c2 := cI hbr 2 (v := .slice A l.length c) rfl
    by_cases ci : i < l.length
    · have cb : decide (i < l.length) = true := decide_eq_true ci
      obtain ⟨d, rfl⟩ : ∃ d, gk = d + 1 := ⟨gk - 1, by have := HI.out; omega⟩
      obtain ⟨ad, ea, x0, x1, x2, x3, x4⟩ := at_T59 (Kd.C_below HC.out HB.out) (i : Int) (by omega) (by omega)
      subst ea
      simp only [Int.toNat_natCast] at x0 x1 x2 x3 x4
      have hv := HV.out
      rw [findV_at l x y i ci] at hv
      have HWI := Aside0.mk (show wrap64 ((i : Int) + 1) = ((i + 1 : Nat) : Int) by have := HL.out; unfold wrap64; omega)
      have cl : (i < l.length) = True := eq_true ci
      have HIN := Aside0.mk (in_some (rd_T59 l i).f0 x y)
      clear hbr ci HV
      cases hi : inF (rd_T59 l i).f0 x y with
      | true =>
        rw [hi, if_pos rfl] at hv
        rw [hi] at HIN
        have HV2 := Aside0.mk hv
        clear hv hi
        go_wp2_with (go_at_call 28; refine (frisketref20_in.calls _ _ _ _ _ _ true _ HIN.out).mono ?_; rintro e w2 ⟨rfl, hb2⟩; have HB2 := Aside0.mk (below_step HB.out hb2); have k4 := (hb2.cell (World.block_lt_of_cell? _ _ x4)).trans x4; have k2 := (hb2.cell (World.block_lt_of_cell? _ _ c2)).trans c2; clear hb2)
        go_ret
        exact ⟨by rw [← HV2.out]; rfl, HB2.out⟩
      | false =>
        rw [hi, if_neg (by simp)] at hv
        rw [hi] at HIN
        have HV2 := Aside0.mk hv
        clear hv hi
        go_wp2_with (go_at_call 28; refine (frisketref20_in.calls _ _ _ _ _ _ false _ HIN.out).mono ?_; rintro e w2 ⟨rfl, hb2⟩; have HB2 := Aside0.mk (below_step HB.out hb2); clear hb2)
        go_roundg d
        case measure => have := HI.out; omega
        case rel => exact ⟨i + 1, by rw [HWI.out], ⟨by have := HI.out; omega⟩, HV2, HB2⟩
    · have cb : decide (i < l.length) = false := decide_eq_false ci
      have hv := HV.out
      rw [List.drop_eq_nil_of_le (by omega)] at hv
      have HV2 := Aside0.mk hv
      clear hv HV ci
      go_wp2
      go_ret
      exact ⟨by rw [← HV2.out]; rfl, HB.out⟩
set_option maxHeartbeats 2000000 in
set_option maxRecDepth 100000 in
theorem RNew.calls (W H : Int) (w : World) (hW : 1 ≤ W ∧ W ≤ 60) (hH : 1 ≤ H ∧ H ≤ 60) :
    Calls Try.prog 8 #[.int .i64 W, .int .i64 H] w fun e w' => ∃ g, e = .returned (.tuple #[.pointer (some ⟨g, 0, none⟩), .int .i64 0]) ∧ RSh w' g W H [] ∧ w.heap.size ≤ g ∧ Below w.heap.size w w' := by
  have hu55 := Try.underlying55
  have b1 : decide (W < 1) = false := decide_eq_false (by omega)
  have b2 : decide (60 < W) = false := decide_eq_false (by omega)
  have b3 : decide (H < 1) = false := decide_eq_false (by omega)
  have b4 : decide (60 < H) = false := decide_eq_false (by omega)
  clear hW hH
  go_enter Try.func8, Try.ntmps8
  go_wp2
  go_ret2
  exact ⟨w.heap.size, rfl, ⟨none, 0, blk_new _ _, (Kd.R_reads' (Kd.R_nil k59 59 _ 0 (fun _ => True))).2.2, Nat.le_refl _⟩, Nat.le_refl _, below_alloc (Below.refl _ _) _⟩
end Go.Proofs.Ytpljnkfbcgdafaa.P
