/- The document's Free. What the document's rects are, cell by cell: the sheet's entries. How many cells an owner has; the least rect; all owners' together. Both sheets' Area, Free and count that Clear answers are the same. The document's Clear, with the count that it answers. An act of both sheets, by what the callees do. An act of both sheets, by what the callees do. Both sheets behind a script's acts: the same. -/
import Derived.Test.YtpljnkfbcgdafaaHRef
import Derived.Test.YtpljnkfbcgdafaaHBackPure
import Derived.Test.YtpljnkfbcgdafaaHVals
import Derived.Test.YtpljnkfbcgdafaaHArea
import Derived.Test.YtpljnkfbcgdafaaHRClear
import Derived.Test.YtpljnkfbcgdafaaHTwo

namespace Go.Proofs.Ytpljnkfbcgdafaa.P
open Go.RowKit Go.Shelf Go.Proofs.YtpljnkfbcgdafaaW.PrintWords Go.Proofs.YtpljnkfbcgdafaaW.PrintLast Go.Proofs.YtpljnkfbcgdafaaW.PrintMore
set_option linter.unusedVariables false
set_option linter.unusedSimpArgs false

def frS (n : Int) (h : S59) : Int := wrap64 (n - wrap64 (h.f0.f2 * h.f0.f3))
set_option maxHeartbeats 8000000 in
set_option maxRecDepth 100000 in
theorem RFree.calls (g : Nat) (W H : Int) (l : List S59) (w : World) (h : RSh w g W H l) (hl : l.length ≤ 1000000) :
    Calls Try.prog 14 #[.pointer (some ⟨g, 0, none⟩)] w fun e w' => e = .returned (.int .i64 (l.foldl frS (wrap64 (W * H)))) ∧ Below w.heap.size w w' := by
  have hu32 := Try.underlying32
  have hu55 := Try.underlying55
  have hu59 := Try.underlying59
  have HW := Aside0.mk h
  have HL := Aside0.mk hl
  obtain ⟨A, c, hg, hC, hc⟩ := h
  have g0 := cI hg 0 (v := .int .i64 W) rfl
  have g1 := cI hg 1 (v := .int .i64 H) rfl
  clear hl hg hC hc
  go_enter Try.func14, Try.ntmps14
  go_upto_region 1 with (fail)
  go_region
  go_wp2
  clear g0 g1
  have HB0 := Aside0.mk (below_drew1 (Below.refl w.heap.size w))
  obtain ⟨V, hV⟩ : ∃ V, w.drew = V := ⟨_, rfl⟩
  rw [hV] at HB0 ⊢
  clear hV
  go_loopg [3, 4] l.length (fun kq v3 v4 wr => ∃ (i : Nat), v3 = .int .i64 ((l.take i).foldl frS (wrap64 (W * H))) ∧ v4 = .int .i64 (i : Int) ∧ Aside0 (i + kq = l.length) ∧ Aside0 (Below w.heap.size w wr))
  case atStart => exact ⟨0, rfl, rfl, ⟨by omega⟩, HB0⟩
  case round =>
    obtain ⟨i, rfl, rfl, HI, HB⟩ := hrel
    obtain ⟨A, c, hg, hC, hc⟩ := HW.out.below HB.out
    have c2 := cI hg 2 (v := .slice A l.length c) rfl
    obtain ⟨n, hn⟩ : ∃ n, (l.take i).foldl frS (wrap64 (W * H)) = n := ⟨_, rfl⟩
    have HN := Aside0.mk hn
    rw [hn]
    clear hn
    by_cases ci : i < l.length
    · have cb : decide (i < l.length) = true := decide_eq_true ci
      have cl : (i < l.length) = True := eq_true ci
      obtain ⟨d, rfl⟩ : ∃ d, gk = d + 1 := ⟨gk - 1, by have := HI.out; omega⟩
      obtain ⟨ad, ea, x0, x1, x2, x3, x4⟩ := at_T59 hC (i : Int) (by omega) (by omega)
      subst ea
      simp only [Int.toNat_natCast] at x0 x1 x2 x3 x4
      have HFS : Aside0 ((l.take (i + 1)).foldl frS (wrap64 (W * H)) = frS n (rd_T59 l (i : Int))) := ⟨by
        have e : rd_T59 l (i : Int) = l[i] := by unfold rd_T59; simp [List.getD_eq_getElem?_getD, List.getElem?_eq_getElem ci]
        rw [List.take_succ_eq_append_getElem ci, List.foldl_append, HN.out, e]; rfl⟩
      obtain ⟨q, hq⟩ : ∃ q, rd_T59 l (i : Int) = q := ⟨_, rfl⟩
      have HWI := Aside0.mk (show wrap64 ((i : Int) + 1) = ((i + 1 : Nat) : Int) by have := HL.out; unfold wrap64; omega)
      have i0 : (0 : Int) ≤ (i : Int) := by omega
      rw [hq] at x0 x1 x2 x3 x4 HFS
      clear hq hg hC hc ci
      go_upto_region 5 with (fail)
      go_region
      all_goals go_wp2
      all_goals go_roundg d
      case measure => have := HI.out; omega
      case rel => exact ⟨i + 1, by rw [HFS.out]; rfl, by rw [HWI.out], ⟨by have := HI.out; omega⟩, ⟨below_drew1 HB.out⟩⟩
    · have cb : decide (i < l.length) = false := decide_eq_false ci
      have hii : i = l.length := by have := HI.out; omega
      have hf := HN.out
      rw [hii, List.take_length] at hf
      have HF := Aside0.mk hf
      clear hii hf HN hg hC hc ci
      go_wp2
      go_ret
      exact ⟨by rw [HF.out]; rfl, HB.out⟩
end Go.Proofs.Ytpljnkfbcgdafaa.P

namespace Go.Proofs.Ytpljnkfbcgdafaa.P
open Go.RowKit Go.Shelf Go.Proofs.YtpljnkfbcgdafaaW.PrintWords Go.Proofs.YtpljnkfbcgdafaaW.PrintLast Go.Proofs.YtpljnkfbcgdafaaW.PrintMore
set_option linter.unusedVariables false
set_option linter.unusedSimpArgs false

/-- A rect's cells, its owner's. -/
def cellsH (h : S59) : List Ent := (upC h.f0.f0 h.f0.f1 h.f0.f3.toNat (h.f0.f2.toNat * h.f0.f3.toNat)).map (fun c => (c.1, h.f1))
def cellsL (l : List S59) : List Ent := l.flatMap cellsH
structure OkH (W H : Int) (h : S59) : Prop where
  x : 0 ≤ h.f0.f0 ∧ 1 ≤ h.f0.f2 ∧ h.f0.f0 + h.f0.f2 ≤ W
  y : 0 ≤ h.f0.f1 ∧ 1 ≤ h.f0.f3 ∧ h.f0.f1 + h.f0.f3 ≤ H
  o : 1 ≤ h.f1 ∧ h.f1 ≤ 1048576
def OkL (W H : Int) (l : List S59) : Prop := ∀ h ∈ l, OkH W H h
/-- A side that is looked at here. -/
def Sd (W H : Int) : Prop := 1 ≤ W ∧ W ≤ 60 ∧ 1 ≤ H ∧ H ≤ 60
theorem lies_iff {a n s : Int} : liesB a n s = true ↔ 0 ≤ a ∧ 1 ≤ n ∧ a + n ≤ s := by
  simp only [liesB, Bool.and_eq_true, decide_eq_true_eq]
  omega
theorem cell_key {X Y : Int} {rw_ rh : Nat} (h : 0 ≤ X ∧ 0 ≤ Y ∧ X + rw_ ≤ 100 ∧ Y + rh ≤ 100) {k : Nat} (hk : k < rw_ * rh) : (cellAt X Y rh k).1 = (X + ((k / rh : Nat) : Int), Y + ((k % rh : Nat) : Int)) ∧ k / rh < rw_ ∧ k % rh < rh := by
  have hr : 0 < rh := by
    rcases Nat.eq_zero_or_pos rh with h0 | h0
    · subst h0; omega
    · exact h0
  have h1 : k / rh < rw_ := Nat.div_lt_of_lt_mul (by rw [Nat.mul_comm]; exact hk)
  have h2 := Nat.mod_lt k hr
  refine ⟨?_, h1, h2⟩
  unfold cellAt
  clear hk
  generalize k / rh = A at h1 ⊢
  generalize k % rh = B at h2 ⊢
  exact mkC_in (by omega)
theorem mem_upC {X Y : Int} {rw_ rh : Nat} (h : 0 ≤ X ∧ 0 ≤ Y ∧ X + rw_ ≤ 100 ∧ Y + rh ≤ 100) (x y : Int) : (∃ c ∈ upC X Y rh (rw_ * rh), c.1 = (x, y)) ↔ X ≤ x ∧ x < X + rw_ ∧ Y ≤ y ∧ y < Y + rh := by
  constructor
  · rintro ⟨c, hc, he⟩
    obtain ⟨k, hk, rfl⟩ := List.mem_map.1 hc
    have hk := List.mem_range.1 hk
    obtain ⟨h1, h2, h3⟩ := cell_key h hk
    rw [h1] at he
    simp only [Prod.mk.injEq] at he
    clear hc hk h1
    generalize k / rh = A at h2 he
    generalize k % rh = B at h3 he
    omega
  · rintro ⟨h1, h2, h3, h4⟩
    obtain ⟨i, hi⟩ : ∃ i : Nat, x = X + i := ⟨(x - X).toNat, by omega⟩
    obtain ⟨j, hj⟩ : ∃ j : Nat, y = Y + j := ⟨(y - Y).toNat, by omega⟩
    subst hi hj
    have hij : i * rh + j < rw_ * rh := by
      have h5 : (i + 1) * rh ≤ rw_ * rh := Nat.mul_le_mul_right rh (by omega)
      rw [Nat.succ_mul] at h5
      omega
    refine ⟨cellAt X Y rh (i * rh + j), List.mem_map.2 ⟨_, List.mem_range.2 hij, rfl⟩, ?_⟩
    exact cellAt_ij X Y rh i j (by omega) (by omega)
theorem OkH.nat {W H : Int} (hs : Sd W H) {h : S59} (ho : OkH W H h) : ∃ rw_ rh : Nat, h.f0.f2 = (rw_ : Int) ∧ h.f0.f3 = (rh : Int) ∧ h.f0.f2.toNat = rw_ ∧ h.f0.f3.toNat = rh ∧ 0 ≤ h.f0.f0 ∧ 0 ≤ h.f0.f1 ∧ h.f0.f0 + rw_ ≤ 100 ∧ h.f0.f1 + rh ≤ 100 ∧ 1 ≤ rw_ ∧ 1 ≤ rh ∧ h.f0.f0 + rw_ ≤ W ∧ h.f0.f1 + rh ≤ H := by
  have h1 := ho.x
  have h2 := ho.y
  unfold Sd at hs
  exact ⟨h.f0.f2.toNat, h.f0.f3.toNat, by omega, by omega, rfl, rfl, by omega⟩
theorem mem_cellsH {W H : Int} (hs : Sd W H) {h : S59} (ho : OkH W H h) (x y : Int) : (∃ e ∈ cellsH h, e.1 = (x, y)) ↔ h.f0.f0 ≤ x ∧ x < h.f0.f0 + h.f0.f2 ∧ h.f0.f1 ≤ y ∧ y < h.f0.f1 + h.f0.f3 := by
  obtain ⟨rw_, rh, e1, e2, e3, e4, h0, h1, h2, h3, _⟩ := ho.nat hs
  have := mem_upC (X := h.f0.f0) (Y := h.f0.f1) (rw_ := rw_) (rh := rh) ⟨h0, h1, h2, h3⟩ x y
  unfold cellsH
  rw [e3, e4, e1, e2, ← this]
  constructor
  · rintro ⟨e, he, hx⟩
    obtain ⟨c, hc, rfl⟩ := List.mem_map.1 he
    exact ⟨c, hc, hx⟩
  · rintro ⟨c, hc, hx⟩
    exact ⟨_, List.mem_map.2 ⟨c, hc, rfl⟩, hx⟩
theorem cellsH_own {h : S59} {e : Ent} (he : e ∈ cellsH h) : e.2 = h.f1 := by
  obtain ⟨c, hc, rfl⟩ := List.mem_map.1 he
  rfl
theorem cellsH_in {W H : Int} (hs : Sd W H) {h : S59} (ho : OkH W H h) {e : Ent} (he : e ∈ cellsH h) : 0 ≤ e.1.1 ∧ e.1.1 < W ∧ 0 ≤ e.1.2 ∧ e.1.2 < H ∧ 1 ≤ e.2 ∧ e.2 ≤ 1048576 := by
  have h1 := (mem_cellsH hs ho e.1.1 e.1.2).1 ⟨e, he, rfl⟩
  have h2 := ho.x
  have h3 := ho.y
  have h4 := ho.o
  rw [cellsH_own he]
  omega
theorem cellsL_in {W H : Int} (hs : Sd W H) {l : List S59} (hl : OkL W H l) {e : Ent} (he : e ∈ cellsL l) : 0 ≤ e.1.1 ∧ e.1.1 < W ∧ 0 ≤ e.1.2 ∧ e.1.2 < H ∧ 1 ≤ e.2 ∧ e.2 ≤ 1048576 := by
  obtain ⟨h, hm, he⟩ := List.mem_flatMap.1 he
  exact cellsH_in hs (hl h hm) he
theorem inF_iff {W H : Int} (hs : Sd W H) {h : S59} (ho : OkH W H h) {x y : Int} (hx : 0 ≤ x ∧ x < W ∧ 0 ≤ y ∧ y < H) : inF h.f0 x y = true ↔ h.f0.f0 ≤ x ∧ x < h.f0.f0 + h.f0.f2 ∧ h.f0.f1 ≤ y ∧ y < h.f0.f1 + h.f0.f3 := by
  have h2 := ho.x
  have h3 := ho.y
  unfold Sd at hs
  have w1 : wrap64 (x - h.f0.f0) = x - h.f0.f0 := by unfold wrap64; omega
  have w2 : wrap64 (y - h.f0.f1) = y - h.f0.f1 := by unfold wrap64; omega
  unfold inF frisketref20_in.f
  rw [w1, w2]
  by_cases c1 : x ≥ h.f0.f0
  · rw [if_pos c1]
    by_cases c2 : x - h.f0.f0 < h.f0.f2
    · rw [if_pos c2]
      by_cases c3 : y ≥ h.f0.f1
      · rw [if_pos c3]
        simp only [Option.getD_some, decide_eq_true_eq]
        omega
      · rw [if_neg c3]
        simp only [Option.getD_some, Bool.false_eq_true, false_iff]
        omega
    · rw [if_neg c2]
      simp only [Option.getD_some, Bool.false_eq_true, false_iff]
      omega
  · rw [if_neg c1]
    simp only [Option.getD_some, Bool.false_eq_true, false_iff]
    omega
theorem valE_append (a b : List Ent) (x y : Int) : valE (a ++ b) x y = if hasE a x y = true then valE a x y else valE b x y := by
  unfold valE hasE
  rw [List.find?_append]
  by_cases h : (a.any fun e => e.1 == (x, y)) = true
  · rw [if_pos h]
    cases hf : a.find? (fun e => e.1 == (x, y)) with
    | none =>
      rw [List.find?_eq_none] at hf
      obtain ⟨e, he, hx⟩ := List.any_eq_true.1 h
      exact absurd hx (hf e he)
    | some e => rfl
  · rw [if_neg h]
    have hf : a.find? (fun e => e.1 == (x, y)) = none := by
      rw [List.find?_eq_none]
      intro e he hx
      exact h (List.any_eq_true.2 ⟨e, he, hx⟩)
    rw [hf]; rfl
theorem valE_own {es : List Ent} {o : Int} (h : ∀ e ∈ es, e.2 = o) {x y : Int} (hx : hasE es x y = true) : valE es x y = o := by
  unfold valE
  cases hf : es.find? (fun e => e.1 == (x, y)) with
  | none =>
    rw [List.find?_eq_none] at hf
    obtain ⟨e, he, hx⟩ := List.any_eq_true.1 hx
    exact absurd hx (hf e he)
  | some e => exact h e (List.mem_of_find?_eq_some hf)
theorem val_find {W H : Int} (hs : Sd W H) {x y : Int} (hx : 0 ≤ x ∧ x < W ∧ 0 ≤ y ∧ y < H) : ∀ (l : List S59), OkL W H l → valE (cellsL l) x y = findV l x y
  | [], _ => rfl
  | h :: r, hl => by
    have ho := hl h (List.mem_cons_self ..)
    have e1 : cellsL (h :: r) = cellsH h ++ cellsL r := rfl
    rw [e1, valE_append]
    show _ = if inF h.f0 x y = true then h.f1 else findV r x y
    by_cases c : inF h.f0 x y = true
    · rw [if_pos c, if_pos (hasE_iff.2 ((mem_cellsH hs ho x y).2 ((inF_iff hs ho hx).1 c)))]
      exact valE_own (fun e he => cellsH_own he) (hasE_iff.2 ((mem_cellsH hs ho x y).2 ((inF_iff hs ho hx).1 c)))
    · rw [if_neg c, if_neg (fun h2 => c ((inF_iff hs ho hx).2 ((mem_cellsH hs ho x y).1 (hasE_iff.1 h2))))]
      exact val_find hs hx r (fun q hq => hl q (List.mem_cons_of_mem _ hq))
/-- Both answer each cell alike. -/
theorem val_rAt {W H : Int} (hs : Sd W H) {l : List S59} (hl : OkL W H l) (x y : Int) : valE (cellsL l) x y = rAt W H l x y := by
  unfold rAt
  by_cases c : x < 0 ∨ y < 0 ∨ W ≤ x ∨ H ≤ y
  · rw [if_pos c]
    refine valE_none (Bool.eq_false_iff.2 fun h => ?_)
    obtain ⟨e, he, hx⟩ := hasE_iff.1 h
    have := cellsL_in hs hl he
    rw [hx] at this
    simp only [] at this
    omega
  · rw [if_neg c]
    exact val_find hs (by omega) l hl
theorem OkL.nil {W H : Int} : OkL W H [] := fun _ h => by cases h
theorem OkL.snoc {W H : Int} {l : List S59} (hl : OkL W H l) {h : S59} (ho : OkH W H h) : OkL W H (l ++ [h]) := by
  intro q hq
  rcases List.mem_append.1 hq with hq | hq
  · exact hl q hq
  · rw [List.mem_singleton.1 hq]; exact ho
theorem OkL.notR {W H : Int} {l : List S59} (hl : OkL W H l) (ow : Int) : OkL W H (notR ow l) := fun q hq => hl q (List.mem_filter.1 hq).1
theorem cellsL_snoc (l : List S59) (h : S59) : cellsL (l ++ [h]) = cellsL l ++ cellsH h := by
  unfold cellsL
  rw [List.flatMap_append]
  simp
/-- What a rect's Take makes of the entries. -/
theorem take_cells {W H : Int} (hs : Sd W H) {l : List S59} (hl : OkL W H l) (hnd : (cellsL l).Pairwise (fun a b => a.1 ≠ b.1)) {X Y : Int} {rw_ rh : Nat} {ow : Int} (ho : OkH W H (held X Y rw_ rh ow))
    (hf : ∀ c ∈ upC X Y rh (rw_ * rh), valE (cellsL l) c.1.1 c.1.2 = 0) : (upC X Y rh (rw_ * rh)).foldl (fun es c => putE es c.1 ow) (cellsL l) = cellsL (l ++ [held X Y rw_ rh ow]) := by
  have h1 := ho.x
  have h2 := ho.y
  have h3 := hs
  unfold Sd at h3
  simp only [held] at h1 h2
  rw [fold_put ow _ _ (upC_nodup X Y rw_ rh (by omega)), cellsL_snoc]
  congr 1
  refine List.filter_eq_self.2 fun e he => ?_
  unfold offC
  rw [Bool.not_eq_true', List.any_eq_false]
  intro c hc hx
  have h4 := hf c hc
  have h5 := valE_mem hnd he
  have h6 := cellsL_in hs hl he
  rw [eq_of_beq hx] at h5
  omega
theorem notE_append (o : Int) (a b : List Ent) : notE o (a ++ b) = notE o a ++ notE o b := List.filter_append _ _
theorem clear_cells (ow : Int) : ∀ (l : List S59), notE ow (cellsL l) = cellsL (notR ow l)
  | [] => rfl
  | h :: r => by
    have e1 : cellsL (h :: r) = cellsH h ++ cellsL r := rfl
    rw [e1, notE_append, clear_cells ow r]
    unfold notR
    rw [List.filter_cons]
    by_cases c : h.f1 = ow
    · have c1 : (h.f1 != ow) = false := bne_eq_false_iff_eq.2 c
      rw [c1, if_neg (by decide)]
      have : notE ow (cellsH h) = [] := List.filter_eq_nil_iff.2 fun e he => by
        rw [cellsH_own he, c]; simp
      rw [this]; rfl
    · have c1 : (h.f1 != ow) = true := bne_iff_ne.2 c
      rw [c1, if_pos rfl]
      have : notE ow (cellsH h) = cellsH h := List.filter_eq_self.2 fun e he => by
        rw [cellsH_own he]; simpa using c
      rw [this]; rfl
theorem len_cellsH {W H : Int} (hs : Sd W H) {h : S59} (ho : OkH W H h) : ((cellsH h).length : Int) = h.f0.f2 * h.f0.f3 ∧ (cellsH h).length ≤ 3600 := by
  obtain ⟨rw_, rh, e1, e2, e3, e4, h0, h1, h2, h3, h4, h5, h6, h7⟩ := ho.nat hs
  unfold Sd at hs
  unfold cellsH upC
  rw [List.length_map, List.length_map, List.length_range, e3, e4, e1, e2]
  refine ⟨Int.natCast_mul _ _, ?_⟩
  have : rw_ * rh ≤ 60 * 60 := Nat.mul_le_mul (by omega) (by omega)
  omega
theorem len_cellsL {W H : Int} (hs : Sd W H) : ∀ (l : List S59), OkL W H l → (cellsL l).length ≤ 3600 * l.length
  | [], _ => Nat.le_refl _
  | h :: r, hl => by
    have e1 : cellsL (h :: r) = cellsH h ++ cellsL r := rfl
    rw [e1, List.length_append, List.length_cons]
    have h1 := (len_cellsH hs (hl h (List.mem_cons_self ..))).2
    have h2 := len_cellsL hs r (fun q hq => hl q (List.mem_cons_of_mem _ hq))
    omega
end Go.Proofs.Ytpljnkfbcgdafaa.P

namespace Go.Proofs.Ytpljnkfbcgdafaa.P
open Go.RowKit Go.Shelf Go.Proofs.YtpljnkfbcgdafaaW.PrintWords Go.Proofs.YtpljnkfbcgdafaaW.PrintLast Go.Proofs.YtpljnkfbcgdafaaW.PrintMore
set_option linter.unusedVariables false
set_option linter.unusedSimpArgs false

def cntE (ow : Int) (es : List Ent) : Nat := (es.filter (fun e => e.2 == ow)).length
theorem cntE_cons (ow : Int) (e : Ent) (es : List Ent) : cntE ow (e :: es) = (if e.2 = ow then 1 else 0) + cntE ow es := by
  unfold cntE
  rw [List.filter_cons]
  by_cases c : e.2 = ow
  · have c1 : (e.2 == ow) = true := beq_iff_eq.2 c
    rw [c1, if_pos rfl, if_pos c, List.length_cons]; omega
  · have c1 : (e.2 == ow) = false := beq_eq_false_iff_ne.2 c
    rw [c1, if_neg (by decide), if_neg c]; omega
theorem cntE_le (ow : Int) (es : List Ent) : cntE ow es ≤ es.length := List.length_filter_le ..
/-- What Area finds: how many; bounds that hold, and are met. -/
structure ArC (ow : Int) (es : List Ent) (a b : Ar) : Prop where
  n : b.n = a.n + (cntE ow es : Int)
  lx : b.lx ≤ a.lx
  ly : b.ly ≤ a.ly
  hx : a.hx ≤ b.hx
  hy : a.hy ≤ b.hy
  all : ∀ e ∈ es, e.2 = ow → b.lx ≤ e.1.1 ∧ e.1.1 < b.hx ∧ b.ly ≤ e.1.2 ∧ e.1.2 < b.hy
  mlx : b.lx = a.lx ∨ ∃ e ∈ es, e.2 = ow ∧ b.lx = e.1.1
  mly : b.ly = a.ly ∨ ∃ e ∈ es, e.2 = ow ∧ b.ly = e.1.2
  mhx : b.hx = a.hx ∨ ∃ e ∈ es, e.2 = ow ∧ b.hx = e.1.1 + 1
  mhy : b.hy = a.hy ∨ ∃ e ∈ es, e.2 = ow ∧ b.hy = e.1.2 + 1
theorem ArC.lift {ow : Int} {es : List Ent} {e : Ent} {P : Ent → Prop} (h : ∃ x ∈ es, x.2 = ow ∧ P x) : ∃ x ∈ e :: es, x.2 = ow ∧ P x := by
  obtain ⟨x, h1, h2⟩ := h
  exact ⟨x, List.mem_cons_of_mem _ h1, h2⟩
theorem ar_char (ow : Int) : ∀ (es : List Ent) (a : Ar), ArC ow es a (es.foldl (arS ow) a)
  | [], a => ⟨by simp [cntE], Int.le_refl _, Int.le_refl _, Int.le_refl _, Int.le_refl _, (fun _ h => by cases h), .inl rfl, .inl rfl, .inl rfl, .inl rfl⟩
  | e :: r, a => by
    rw [List.foldl_cons]
    have ih := ar_char ow r (arS ow a e)
    generalize r.foldl (arS ow) (arS ow a e) = b at ih
    by_cases c : e.2 = ow
    · have hn := cntE_cons ow e r
      rw [if_pos c] at hn
      have e0 : arS ow a e = ⟨a.n + 1, if e.1.1 < a.lx then e.1.1 else a.lx, if e.1.2 < a.ly then e.1.2 else a.ly, if a.hx < e.1.1 + 1 then e.1.1 + 1 else a.hx, if a.hy < e.1.2 + 1 then e.1.2 + 1 else a.hy⟩ := by
        unfold arS; rw [if_pos c]
      rw [e0] at ih
      obtain ⟨i1, i2, i3, i4, i5, i6, i7, i8, i9, i10⟩ := ih
      simp only [] at i1 i2 i3 i4 i5 i7 i8 i9 i10
      refine ⟨by rw [hn, i1]; omega, by split at i2 <;> omega, by split at i3 <;> omega, by split at i4 <;> omega, by split at i5 <;> omega, ?_, ?_, ?_, ?_, ?_⟩
      · intro x hx ho
        rcases List.mem_cons.1 hx with rfl | hx
        · split at i2 <;> split at i3 <;> split at i4 <;> split at i5 <;> omega
        · exact i6 x hx ho
      · rcases i7 with h | h
        · split at h
          · exact .inr ⟨e, List.mem_cons_self .., c, h⟩
          · exact .inl h
        · exact .inr (ArC.lift h)
      · rcases i8 with h | h
        · split at h
          · exact .inr ⟨e, List.mem_cons_self .., c, h⟩
          · exact .inl h
        · exact .inr (ArC.lift h)
      · rcases i9 with h | h
        · split at h
          · exact .inr ⟨e, List.mem_cons_self .., c, h⟩
          · exact .inl h
        · exact .inr (ArC.lift h)
      · rcases i10 with h | h
        · split at h
          · exact .inr ⟨e, List.mem_cons_self .., c, h⟩
          · exact .inl h
        · exact .inr (ArC.lift h)
    · have hn := cntE_cons ow e r
      rw [if_neg c] at hn
      have e0 : arS ow a e = a := by unfold arS; rw [if_neg c]
      rw [e0] at ih
      obtain ⟨i1, i2, i3, i4, i5, i6, i7, i8, i9, i10⟩ := ih
      refine ⟨by rw [hn, i1]; omega, i2, i3, i4, i5, ?_, i7.imp id ArC.lift, i8.imp id ArC.lift, i9.imp id ArC.lift, i10.imp id ArC.lift⟩
      intro x hx ho
      rcases List.mem_cons.1 hx with rfl | hx
      · exact absurd ho c
      · exact i6 x hx ho
theorem nodup_le : ∀ (N : Nat) (l : List Nat), l.Nodup → (∀ x ∈ l, x < N) → l.length ≤ N
  | 0, l, _, h => by
    match l, h with
    | [], _ => exact Nat.le_refl _
    | x :: r, h => exact absurd (h x (List.mem_cons_self ..)) (Nat.not_lt_zero _)
  | N + 1, l, hn, h => by
    have h1 : (l.erase N).length ≤ N := nodup_le N _ (hn.erase N) fun x hx => by
      have h2 := (List.Nodup.mem_erase_iff hn).1 hx
      have := h x h2.2
      have := h2.1
      omega
    by_cases c : N ∈ l
    · rw [List.length_erase_of_mem c] at h1; omega
    · rw [List.erase_of_not_mem c] at h1; omega
/-- Entries of one rect, each cell once: no more than it has cells. -/
theorem count_rect (es : List Ent) (hnd : es.Pairwise (fun a b => a.1 ≠ b.1)) (lx ly : Int) (wn hn : Nat) (hin : ∀ e ∈ es, lx ≤ e.1.1 ∧ e.1.1 < lx + wn ∧ ly ≤ e.1.2 ∧ e.1.2 < ly + hn) : es.length ≤ wn * hn := by
  rw [← List.length_map (f := fun e : Ent => (e.1.1 - lx).toNat * hn + (e.1.2 - ly).toNat)]
  refine nodup_le _ _ ?_ ?_
  · rw [List.Nodup, List.pairwise_map]
    refine hnd.imp_of_mem fun {a b} ha hb hab he => hab ?_
    have h1 := hin a ha
    have h2 := hin b hb
    obtain ⟨i, hi⟩ : ∃ i : Nat, a.1.1 = lx + i := ⟨(a.1.1 - lx).toNat, by omega⟩
    obtain ⟨j, hj⟩ : ∃ j : Nat, a.1.2 = ly + j := ⟨(a.1.2 - ly).toNat, by omega⟩
    obtain ⟨i', hi'⟩ : ∃ i : Nat, b.1.1 = lx + i := ⟨(b.1.1 - lx).toNat, by omega⟩
    obtain ⟨j', hj'⟩ : ∃ j : Nat, b.1.2 = ly + j := ⟨(b.1.2 - ly).toNat, by omega⟩
    have e1 : (a.1.1 - lx).toNat = i := by omega
    have e2 : (a.1.2 - ly).toNat = j := by omega
    have e3 : (b.1.1 - lx).toNat = i' := by omega
    have e4 : (b.1.2 - ly).toNat = j' := by omega
    rw [e1, e2, e3, e4] at he
    have d1 : (i * hn + j) / hn = i := by rw [Nat.mul_comm, Nat.mul_add_div (by omega), Nat.div_eq_of_lt (by omega)]; omega
    have d2 : (i' * hn + j') / hn = i' := by rw [Nat.mul_comm, Nat.mul_add_div (by omega), Nat.div_eq_of_lt (by omega)]; omega
    have d3 : (i * hn + j) % hn = j := by rw [Nat.mul_comm, Nat.mul_add_mod, Nat.mod_eq_of_lt (by omega)]
    have d4 : (i' * hn + j') % hn = j' := by rw [Nat.mul_comm, Nat.mul_add_mod, Nat.mod_eq_of_lt (by omega)]
    rw [he, d2] at d1
    rw [he, d4] at d3
    refine Prod.ext ?_ ?_
    · rw [hi, hi', d1]
    · rw [hj, hj', d3]
  · intro x hx
    obtain ⟨e, he, rfl⟩ := List.mem_map.1 hx
    have h1 := hin e he
    have h2 : ((e.1.1 - lx).toNat + 1) * hn ≤ wn * hn := Nat.mul_le_mul_right hn (by omega)
    rw [Nat.succ_mul] at h2
    show (e.1.1 - lx).toNat * hn + (e.1.2 - ly).toNat < wn * hn
    omega
/-- The owners' cells together. -/
def sumC (es : List Ent) (l : List Int) : Nat := (l.map (fun a => cntE a es)).sum
theorem sumC_snoc (es : List Ent) (l : List Int) (i : Nat) (h : i < l.length) : sumC es (l.take (i + 1)) = sumC es (l.take i) + cntE l[i] es := by
  unfold sumC
  rw [List.take_succ_eq_append_getElem h, List.map_append, List.sum_append]
  simp
theorem cnt_split (a : Int) : ∀ es : List Ent, cntE a es + (notE a es).length = es.length
  | [] => rfl
  | e :: r => by
    rw [cntE_cons]
    have ih := cnt_split a r
    unfold notE at ih ⊢
    rw [List.filter_cons, List.length_cons]
    by_cases c : e.2 = a
    · have c1 : (e.2 == a) = true := beq_iff_eq.2 c
      rw [c1, if_pos c]
      simp only [Bool.not_true, Bool.false_eq_true, if_false]
      omega
    · have c1 : (e.2 == a) = false := beq_eq_false_iff_ne.2 c
      rw [c1, if_neg c]
      simp only [Bool.not_false, if_true, List.length_cons]
      omega
theorem cnt_other {a b : Int} (h : b ≠ a) (es : List Ent) : cntE b (notE a es) = cntE b es := by
  unfold cntE notE
  rw [List.filter_filter]
  congr 1
  apply List.filter_congr
  intro e _
  by_cases c : e.2 = b
  · have c1 : (e.2 == a) = false := beq_eq_false_iff_ne.2 (by omega)
    rw [c1]; simp
  · have c1 : (e.2 == b) = false := beq_eq_false_iff_ne.2 c
    rw [c1]; simp
theorem sumC_all : ∀ (l : List Int) (es : List Ent), l.Pairwise (fun a b => a < b) → (∀ a, a ∈ l ↔ a ∈ valsE es) → sumC es l = es.length
  | [], es, _, h => by
    match es, h with
    | [], _ => rfl
    | e :: r, h => exact absurd ((h e.2).2 (List.mem_map.2 ⟨e, List.mem_cons_self .., rfl⟩)) (by simp)
  | a :: r, es, hp, h => by
    obtain ⟨h1, h2⟩ := List.pairwise_cons.1 hp
    have ih := sumC_all r (notE a es) h2 fun b => by
      constructor
      · intro hb
        obtain ⟨e, he, hv⟩ := List.mem_map.1 ((h b).1 (List.mem_cons_of_mem _ hb))
        refine List.mem_map.2 ⟨e, List.mem_filter.2 ⟨he, ?_⟩, hv⟩
        have := h1 b hb
        have : e.2 ≠ a := by omega
        simpa using this
      · intro hb
        obtain ⟨e, he, hv⟩ := List.mem_map.1 hb
        obtain ⟨he, hn⟩ := List.mem_filter.1 he
        have hn : e.2 ≠ a := by simpa using hn
        rcases List.mem_cons.1 ((h b).2 (List.mem_map.2 ⟨e, he, hv⟩)) with h3 | h3
        · omega
        · exact h3
    have h3 := cnt_split a es
    have h4 : sumC es (a :: r) = cntE a es + sumC es r := by simp [sumC]
    have h5 : sumC (notE a es) r = sumC es r := by
      unfold sumC
      congr 1
      refine List.map_congr_left fun b hb => cnt_other ?_ es
      have := h1 b hb
      omega
    omega
theorem sumC_part (es : List Ent) (l : List Int) (i : Nat) : sumC es (l.take i) ≤ sumC es l := by
  have : l = l.take i ++ l.drop i := (List.take_append_drop i l).symm
  have h2 : sumC es l = sumC es (l.take i) + sumC es (l.drop i) := by
    conv => lhs; rw [this]
    unfold sumC
    rw [List.map_append, List.sum_append]
  omega
end Go.Proofs.Ytpljnkfbcgdafaa.P

namespace Go.Proofs.Ytpljnkfbcgdafaa.P
open Go.RowKit Go.Shelf Go.Proofs.YtpljnkfbcgdafaaW.PrintWords Go.Proofs.YtpljnkfbcgdafaaW.PrintLast Go.Proofs.YtpljnkfbcgdafaaW.PrintMore
set_option linter.unusedVariables false
set_option linter.unusedSimpArgs false

/-- What the sheet's Area has, and what the document's. -/
structure RelA (W H : Int) (a : Ar) (b : Ra) : Prop where
  n : a.n = b.n
  pos : 0 ≤ a.n
  z : a.n = 0 → a = ⟨0, W, H, 0, 0⟩ ∧ b = ⟨0, 0, 0, 0, 0⟩
  x : a.n ≠ 0 → b.x = a.lx ∧ b.W = a.hx - a.lx ∧ 0 ≤ a.lx ∧ a.lx < a.hx ∧ a.hx ≤ W
  y : a.n ≠ 0 → b.y = a.ly ∧ b.H = a.hy - a.ly ∧ 0 ≤ a.ly ∧ a.ly < a.hy ∧ a.hy ≤ H
theorem ar_skip (ow : Int) : ∀ (es : List Ent) (a : Ar), (∀ e ∈ es, e.2 ≠ ow) → es.foldl (arS ow) a = a
  | [], a, _ => rfl
  | e :: r, a, h => by
    have e0 : arS ow a e = a := by unfold arS; rw [if_neg (h e (List.mem_cons_self ..))]
    rw [List.foldl_cons, e0]
    exact ar_skip ow r a fun x hx => h x (List.mem_cons_of_mem _ hx)
theorem cntE_all {ow : Int} {es : List Ent} (h : ∀ e ∈ es, e.2 = ow) : cntE ow es = es.length := by
  unfold cntE
  rw [List.filter_eq_self.2 fun e he => by rw [h e he]; simp]
theorem wr_id {x : Int} (h : -1000000000 ≤ x ∧ x ≤ 1000000000) : wrap64 x = x := by unfold wrap64; omega
theorem lo_of {A a X : Int} (h1 : A ≤ a) (h2 : A ≤ X) (h3 : A = a ∨ X ≤ A) : minI a X = A := by unfold minI; split <;> omega
theorem hi_of {A a X : Int} (h1 : a ≤ A) (h2 : X ≤ A) (h3 : A = a ∨ A ≤ X) : maxI a X = A := by unfold maxI; split <;> omega
theorem lo_at {A a X : Int} (h2 : A ≤ X) (h3 : A = a ∨ X ≤ A) (h4 : X < a) : A = X := by omega
theorem hi_at {A a X : Int} (h2 : X ≤ A) (h3 : A = a ∨ A ≤ X) (h4 : a < X) : A = X := by omega
theorem rel_step {W H : Int} (hs : Sd W H) (ow : Int) {a : Ar} {b : Ra} (hr : RelA W H a b) (hb : a.n ≤ 1000000) {h : S59} (ho : OkH W H h) : RelA W H ((cellsH h).foldl (arS ow) a) (raS ow b h) := by
  by_cases c : h.f1 = ow
  · have ch := ar_char ow (cellsH h) a
    have hall : ∀ e ∈ cellsH h, e.2 = ow := fun e he => (cellsH_own he).trans c
    have hn := ch.n
    rw [cntE_all hall] at hn
    obtain ⟨hl1, hl2⟩ := len_cellsH hs ho
    have hx := ho.x
    have hy := ho.y
    obtain ⟨e1, m1, k1⟩ := (mem_cellsH hs ho h.f0.f0 h.f0.f1).2 (by omega)
    obtain ⟨e2, m2, k2⟩ := (mem_cellsH hs ho (h.f0.f0 + h.f0.f2 - 1) (h.f0.f1 + h.f0.f3 - 1)).2 (by omega)
    have a1 := ch.all e1 m1 (hall e1 m1)
    have a2 := ch.all e2 m2 (hall e2 m2)
    rw [k1] at a1
    rw [k2] at a2
    have hin : ∀ e ∈ cellsH h, h.f0.f0 ≤ e.1.1 ∧ e.1.1 < h.f0.f0 + h.f0.f2 ∧ h.f0.f1 ≤ e.1.2 ∧ e.1.2 < h.f0.f1 + h.f0.f3 := fun e he => (mem_cellsH hs ho e.1.1 e.1.2).1 ⟨e, he, rfl⟩
    have hlx := ch.lx
    have hly := ch.ly
    have hhx := ch.hx
    have hhy := ch.hy
    have x1 : ((cellsH h).foldl (arS ow) a).lx = a.lx ∨ h.f0.f0 ≤ ((cellsH h).foldl (arS ow) a).lx := ch.mlx.imp id fun ⟨e, he, _, hv⟩ => by have := hin e he; omega
    have x2 : ((cellsH h).foldl (arS ow) a).ly = a.ly ∨ h.f0.f1 ≤ ((cellsH h).foldl (arS ow) a).ly := ch.mly.imp id fun ⟨e, he, _, hv⟩ => by have := hin e he; omega
    have x3 : ((cellsH h).foldl (arS ow) a).hx = a.hx ∨ ((cellsH h).foldl (arS ow) a).hx ≤ h.f0.f0 + h.f0.f2 := ch.mhx.imp id fun ⟨e, he, _, hv⟩ => by have := hin e he; omega
    have x4 : ((cellsH h).foldl (arS ow) a).hy = a.hy ∨ ((cellsH h).foldl (arS ow) a).hy ≤ h.f0.f1 + h.f0.f3 := ch.mhy.imp id fun ⟨e, he, _, hv⟩ => by have := hin e he; omega
    have hpos : 1 ≤ (cellsH h).length := List.length_pos_of_mem m1
    clear ch hin hall m1 m2 k1 k2
    generalize (cellsH h).foldl (arS ow) a = A at *
    generalize (cellsH h).length = L at *
    unfold Sd at hs
    unfold raS
    rw [if_pos c]
    have hp := hr.pos
    have hnn := hr.n
    have w1 : wrap64 (h.f0.f2 * h.f0.f3) = (L : Int) := by rw [← hl1]; exact wr_id (by clear x1 x2 x3 x4; omega)
    have w2 : wrap64 (h.f0.f0 + h.f0.f2) = h.f0.f0 + h.f0.f2 := wr_id (by clear x1 x2 x3 x4; omega)
    have w3 : wrap64 (h.f0.f1 + h.f0.f3) = h.f0.f1 + h.f0.f3 := wr_id (by clear x1 x2 x3 x4; omega)
    simp only [] at a1 a2
    have b1 : h.f0.f0 + h.f0.f2 ≤ A.hx := by clear x1 x2 x3 x4; omega
    have b2 : h.f0.f1 + h.f0.f3 ≤ A.hy := by clear x1 x2 x3 x4; omega
    by_cases hz : a.n = 0
    · obtain ⟨r1, r2⟩ := hr.z hz
      subst r1 r2
      simp only [] at hlx hly hhx hhy x1 x2 x3 x4 hn
      unfold ra0
      rw [if_pos rfl]
      unfold ra1
      simp only [w1, w2, w3]
      have e1 : minI h.f0.f0 h.f0.f0 = h.f0.f0 := by unfold minI; split <;> rfl
      have e2 : minI h.f0.f1 h.f0.f1 = h.f0.f1 := by unfold minI; split <;> rfl
      have e3 : maxI (h.f0.f0 + h.f0.f2) (h.f0.f0 + h.f0.f2) = h.f0.f0 + h.f0.f2 := by unfold maxI; split <;> rfl
      have e4 : maxI (h.f0.f1 + h.f0.f3) (h.f0.f1 + h.f0.f3) = h.f0.f1 + h.f0.f3 := by unfold maxI; split <;> rfl
      have w4 : wrap64 (0 + (L : Int)) = (L : Int) := by rw [Int.zero_add]; exact wr_id (by clear x1 x2 x3 x4; omega)
      rw [e1, e2, e3, e4, w4, wr_id (x := h.f0.f0 + h.f0.f2 - h.f0.f0) (by omega), wr_id (x := h.f0.f1 + h.f0.f3 - h.f0.f1) (by omega)]
      have f1 : A.lx = h.f0.f0 := lo_at a1.1 x1 (by clear x1 x2 x3 x4; omega)
      have f2 : A.ly = h.f0.f1 := lo_at a1.2.2.1 x2 (by clear x1 x2 x3 x4; omega)
      have f3 : A.hx = h.f0.f0 + h.f0.f2 := hi_at b1 x3 (by clear x1 x2 x3 x4; omega)
      have f4 : A.hy = h.f0.f1 + h.f0.f3 := hi_at b2 x4 (by clear x1 x2 x3 x4; omega)
      clear x1 x2 x3 x4
      have f0 : A.n = (L : Int) := by rw [hn]; exact Int.zero_add _
      clear hr hn hlx hly hhx hhy hp hnn hz a1 a2 b1 b2 w1 w2 w3 w4 e1 e2 e3 e4 hl1
      exact ⟨f0, by rw [f0]; omega, fun h0 => absurd h0 (by rw [f0]; omega), fun _ => ⟨f1.symm, by rw [f1, f3], by rw [f1]; exact hx.1, by rw [f1, f3]; omega, by rw [f3]; exact hx.2.2⟩, fun _ => ⟨f2.symm, by rw [f2, f4], by rw [f2]; exact hy.1, by rw [f2, f4]; omega, by rw [f4]; exact hy.2.2⟩⟩
    · have q1 := hr.x hz
      have q2 := hr.y hz
      have hbz : ¬ b.n = 0 := by omega
      unfold ra0
      rw [if_neg hbz]
      unfold ra1
      have w4 : wrap64 (b.n + (L : Int)) = A.n := by rw [wr_id (by clear x1 x2 x3 x4; omega)]; clear x1 x2 x3 x4; omega
      have w5 : wrap64 (b.x + b.W) = a.hx := by rw [wr_id (by clear x1 x2 x3 x4; omega)]; clear x1 x2 x3 x4; omega
      have w6 : wrap64 (b.y + b.H) = a.hy := by rw [wr_id (by clear x1 x2 x3 x4; omega)]; clear x1 x2 x3 x4; omega
      have e1 : minI b.x h.f0.f0 = A.lx := by rw [q1.1]; exact lo_of hlx a1.1 x1
      have e2 : minI b.y h.f0.f1 = A.ly := by rw [q2.1]; exact lo_of hly a1.2.2.1 x2
      have e3 : maxI a.hx (h.f0.f0 + h.f0.f2) = A.hx := hi_of hhx b1 x3
      have e4 : maxI a.hy (h.f0.f1 + h.f0.f3) = A.hy := hi_of hhy b2 x4
      have g3 : A.hx ≤ W := by rcases x3 with h1 | h1 <;> (clear x1 x2 x4; omega)
      have g4 : A.hy ≤ H := by rcases x4 with h1 | h1 <;> (clear x1 x2 x3; omega)
      have g1 : 0 ≤ A.lx := by rcases x1 with h1 | h1 <;> (clear x2 x3 x4; omega)
      have g2 : 0 ≤ A.ly := by rcases x2 with h1 | h1 <;> (clear x1 x3 x4; omega)
      clear x1 x2 x3 x4
      simp only [w1, w2, w3, w4, w5, w6, e1, e2, e3, e4]
      rw [wr_id (x := A.hx - A.lx) (by omega), wr_id (x := A.hy - A.ly) (by omega)]
      have f0 : 1 ≤ A.n := by omega
      have f5 : A.lx < A.hx := by omega
      have f6 : A.ly < A.hy := by omega
      exact ⟨rfl, by omega, fun h0 => absurd h0 (by omega), fun _ => ⟨rfl, rfl, g1, f5, g3⟩, fun _ => ⟨rfl, rfl, g2, f6, g4⟩⟩
  · have e1 : raS ow b h = b := by unfold raS; rw [if_neg c]
    rw [e1, ar_skip ow _ _ fun e he => by rw [cellsH_own he]; exact c]
    exact hr
theorem rel_all {W H : Int} (hs : Sd W H) (ow : Int) : ∀ (l : List S59) (a : Ar) (b : Ra), RelA W H a b → OkL W H l → a.n + 3600 * l.length ≤ 1000000 → RelA W H ((cellsL l).foldl (arS ow) a) (l.foldl (raS ow) b)
  | [], a, b, h, _, _ => h
  | h :: r, a, b, hr, hl, hb => by
    have e1 : cellsL (h :: r) = cellsH h ++ cellsL r := rfl
    have ho := hl h (List.mem_cons_self ..)
    rw [e1, List.foldl_append, List.foldl_cons]
    rw [List.length_cons] at hb
    refine rel_all hs ow r _ _ (rel_step hs ow hr (by omega) ho) (fun q hq => hl q (List.mem_cons_of_mem _ hq)) ?_
    have h1 := (ar_char ow (cellsH h) a).n
    have h2 := (len_cellsH hs ho).2
    have h3 := cntE_le ow (cellsH h)
    omega
theorem rel_start {W H : Int} : RelA W H ⟨0, W, H, 0, 0⟩ ⟨0, 0, 0, 0, 0⟩ := ⟨rfl, Int.le_refl _, fun _ => ⟨rfl, rfl⟩, fun h => absurd rfl h, fun h => absurd rfl h⟩
theorem rel_sheet {W H : Int} (hs : Sd W H) (ow : Int) {l : List S59} (hl : OkL W H l) (hn : l.length ≤ 60) : RelA W H ((cellsL l).foldl (arS ow) ⟨0, W, H, 0, 0⟩) (l.foldl (raS ow) ⟨0, 0, 0, 0, 0⟩) :=
  rel_all hs ow l _ _ rel_start hl (by simp only []; omega)
/-- Area: the same answer. -/
theorem area_eq {W H : Int} (hs : Sd W H) (ow : Int) {l : List S59} (hl : OkL W H l) (hn : l.length ≤ 60) : arR ((cellsL l).foldl (arS ow) ⟨0, W, H, 0, 0⟩) = raR (l.foldl (raS ow) ⟨0, 0, 0, 0, 0⟩) := by
  have h := rel_sheet hs ow hl hn
  generalize (cellsL l).foldl (arS ow) ⟨0, W, H, 0, 0⟩ = a at *
  generalize l.foldl (raS ow) ⟨0, 0, 0, 0, 0⟩ = b at *
  unfold Sd at hs
  unfold arR raR
  by_cases hz : a.n = 0
  · rw [if_pos hz, (h.z hz).2]
  · have q1 := h.x hz
    have q2 := h.y hz
    rw [if_neg hz, wr_id (by omega), wr_id (by omega), h.n, q1.1, q1.2.1, q2.1, q2.2.1]
theorem clear_n {W H : Int} (hs : Sd W H) (ow : Int) {l : List S59} (hl : OkL W H l) (hn : l.length ≤ 60) : (((cellsL l).length : Int) - ((notE ow (cellsL l)).length : Int)) = (l.foldl (raS ow) ⟨0, 0, 0, 0, 0⟩).n := by
  rw [← (rel_sheet hs ow hl hn).n, (ar_char ow (cellsL l) _).n]
  have := cnt_split ow (cellsL l)
  simp only []
  omega
theorem free_all {W H : Int} (hs : Sd W H) (l : List S59) : ∀ (n : Int), OkL W H l → (3600 * (l.length : Int) ≤ n + 1000000 ∧ n ≤ 1000000) → l.foldl frS n = n - ((cellsL l).length : Int) := by
  induction l with
  | nil =>
    intro n _ _
    have e1 : cellsL [] = [] := rfl
    rw [e1, List.foldl_nil, List.length_nil]
    omega
  | cons h r ih =>
    intro n hl hb
    have e1 : cellsL (h :: r) = cellsH h ++ cellsL r := rfl
    have ho := hl h (List.mem_cons_self ..)
    obtain ⟨h1, h2⟩ := len_cellsH hs ho
    rw [List.length_cons] at hb
    have e2 : frS n h = n - ((cellsH h).length : Int) := by
      unfold frS
      rw [← h1, wr_id (x := ((cellsH h).length : Int)) (by omega), wr_id (by omega)]
    rw [List.foldl_cons, e2, ih _ (fun q hq => hl q (List.mem_cons_of_mem _ hq)) (by omega), e1, List.length_append]
    omega
theorem free_eq {W H : Int} (hs : Sd W H) {l : List S59} (hl : OkL W H l) (hn : l.length ≤ 60) : wrap64 (wrap64 (W * H) - ((cellsL l).length : Int)) = l.foldl frS (wrap64 (W * H)) := by
  have h0 := hs
  unfold Sd at h0
  have h1 : W * H ≤ 60 * 60 := Int.mul_le_mul (by omega) (by omega) (by omega) (by omega)
  have h2 : 1 * 1 ≤ W * H := Int.mul_le_mul (by omega) (by omega) (by omega) (by omega)
  have h3 := len_cellsL hs l hl
  rw [wr_id (x := W * H) (by omega), free_all hs l _ hl (by omega), wr_id (by omega)]
end Go.Proofs.Ytpljnkfbcgdafaa.P

namespace Go.Proofs.Ytpljnkfbcgdafaa.P
open Go.RowKit Go.Shelf Go.Proofs.YtpljnkfbcgdafaaW.PrintWords Go.Proofs.YtpljnkfbcgdafaaW.PrintLast Go.Proofs.YtpljnkfbcgdafaaW.PrintMore
set_option linter.unusedVariables false
set_option linter.unusedSimpArgs false

set_option maxHeartbeats 8000000 in
set_option maxRecDepth 100000 in
theorem RClearN.calls (g : Nat) (W H : Int) (l : List S59) (ow : Int) (w : World) (h : RSh w g W H l) (hl : l.length ≤ 1000000) :
    Calls Try.prog 23 #[.pointer (some ⟨g, 0, none⟩), .int .i64 ow] w fun e w' => e = .returned (.int .i64 (l.foldl (raS ow) ⟨0, 0, 0, 0, 0⟩).n) ∧ RSh w' g W H (notR ow l) ∧ w.grownBy w' (some g) := by
  have hu32 := Try.underlying32
  have hu55 := Try.underlying55
  have hu59 := Try.underlying59
  have HW := Aside0.mk h
  have HL := Aside0.mk hl
  have HGL := Aside0.mk h.lt
  clear h hl
  go_enter Try.func23, Try.ntmps23
  go_wp2_with (go_at_call 12; refine (RArea2.calls g W H l ow w HW.out HL.out).mono ?_; rintro e w2 ⟨a, ha, rfl, hb⟩; have HBA := Aside0.mk hb; have HAA := Aside0.mk ha; clear hb ha)
  have hv : Below w.heap.size w (w2.alloc (.cells #[.int .i64 a.x, .int .i64 a.y, .int .i64 a.W, .int .i64 a.H] 32)) := below_alloc HBA.out _
  obtain ⟨V, hV⟩ : ∃ V, w2.alloc (.cells #[.int .i64 a.x, .int .i64 a.y, .int .i64 a.W, .int .i64 a.H] 32) = V := ⟨_, rfl⟩
  rw [hV] at hv ⊢
  have HV := Aside0.mk hv
  have HS := Aside0.mk (HW.out.below hv)
  clear hv hV HBA
  go_loopg [7, 8] l.length (fun kq v7 v8 wr => ∃ (i : Nat) (o : List S59) (Av : Option Addr) (cv : Nat), v7 = .slice Av o.length cv ∧ v8 = .int .i64 (i : Int) ∧ Aside0 (i + kq = l.length) ∧ Aside0 (o = notR ow (l.take i)) ∧ Aside0 (Kd.R k59 59 wr V.heap.size (fun _ => True) (.slice Av o.length cv) o) ∧ Aside0 (Below V.heap.size V wr))
  case atStart => exact ⟨0, [], none, 0, rfl, rfl, ⟨by omega⟩, ⟨rfl⟩, ⟨Kd.R_nil _ _ _ _ _⟩, ⟨Below.refl _ _⟩⟩
  case round =>
    obtain ⟨i, o, Av, cv, rfl, rfl, HI, HO, HR, HB⟩ := hrel
    obtain ⟨A, c, hg, hC, hc⟩ := HS.out.below HB.out
    have c2 := cI hg 2 (v := .slice A l.length c) rfl
    by_cases ci : i < l.length
    · have cb : decide (i < l.length) = true := decide_eq_true ci
      have cl : (i < l.length) = True := eq_true ci
      obtain ⟨d, rfl⟩ : ∃ d, gk = d + 1 := ⟨gk - 1, by have := HI.out; omega⟩
      obtain ⟨ad, ea, x0, x1, x2, x3, x4⟩ := at_T59 hC (i : Int) (by omega) (by omega)
      subst ea
      simp only [Int.toNat_natCast] at x0 x1 x2 x3 x4
      have hns := notR_step ow l i ci
      have hnl := HO.out ▸ notR_len ow l i
      have HNL := Aside0.mk hnl
      rw [← HO.out] at hns
      obtain ⟨q, hq⟩ : ∃ q, rd_T59 l (i : Int) = q := ⟨_, rfl⟩
      have HWI := Aside0.mk (show wrap64 ((i : Int) + 1) = ((i + 1 : Nat) : Int) by have := HL.out; unfold wrap64; omega)
      rw [hq] at x0 x1 x2 x3 x4 hns
      clear hq hg hC hc ci hnl
      by_cases ho : q.f1 = ow
      · have hob : (q.f1 != ow) = false := bne_eq_false_iff_eq.2 ho
        rw [hob, if_neg (by decide)] at hns
        have HN := Aside0.mk hns
        clear ho hns
        go_wp2
        go_roundg d
        case measure => have := HI.out; omega
        case rel => exact ⟨i + 1, o, Av, cv, rfl, by rw [HWI.out], ⟨by have := HI.out; omega⟩, ⟨HN.out.symm⟩, HR, HB⟩
      · have hob : (q.f1 != ow) = true := bne_iff_ne.2 ho
        rw [hob, if_pos rfl] at hns
        have HN := Aside0.mk hns
        clear ho hns
        go_wp2_with ((with_reducible refine gate_builtin (b := .append) (xs := #[.tmp 34, .tmp 42]) rfl ?_); at_builtin; refine Kd.R_append k59 (w0 := V) V.heap.size rfl (.tmp 34) (.tmp 42) 53 59 (.agg #[.int .i64 0, .int .i64 0, .int .i64 0, .int .i64 0, .int .i64 0]) 40 rfl Try.underlying53 info59 rfl (by decide) (by omega) (.slice Av o.length cv) o q [.int .i64 q.f0.f0, .int .i64 q.f0.f1, .int .i64 q.f0.f2, .int .i64 q.f0.f3, .int .i64 q.f1] (fun _ => True) (fun _ => False) rfl rfl (k59_mkM _ _ _ q) (fun _ hk => hk.elim) (fun _ _ => trivial) HR.out HB.out HB.out.size (by have := HL.out; have := HNL.out; omega) ?_; intro v2 w3 hr hb _ _; obtain ⟨A3, c3, ev⟩ := Kd.R_slice hr; have ev2 : v2 = .slice A3 (o.length + 1) c3 := (by rw [ev]; simp); subst ev2; clear ev; have HR2 := Aside0.mk hr; have HB2 := Aside0.mk hb; clear hr hb)
        go_roundg d
        case measure => have := HI.out; omega
        case rel => exact ⟨i + 1, o ++ [q], A3, c3, by simp, by rw [HWI.out], ⟨by have := HI.out; omega⟩, ⟨HN.out.symm⟩, ⟨by have := HR2.out; simpa using this⟩, HB2⟩
    · have cb : decide (i < l.length) = false := decide_eq_false ci
      have hii : i = l.length := by have := HI.out; omega
      have ho := HO.out
      rw [hii, List.take_length] at ho
      subst ho
      have HG := Aside0.mk hg
      have f2 := bF hg 2
      clear hii HO hg hC hc ci
      go_wp2
      go_ret
      have hR := Kd.R_set HR.out HG.out (by decide) 2 (.slice Av (notR ow l).length cv)
      have hrr := Kd.R_reads' hR
      refine ⟨by rw [← HAA.out]; rfl, ⟨Av, cv, ?_, ?_, ?_⟩, ?_⟩
      · exact blk_put HG.out 2 _ rfl
      · exact hrr.2.2
      · have := hrr.2.1; simpa using this
      · exact (gB (HV.out.trans (HB.out.mono HV.out.size)) (some g)).trans (grC2 _ g 2 _)
end Go.Proofs.Ytpljnkfbcgdafaa.P

namespace Go.Proofs.Ytpljnkfbcgdafaa.P
open Go.RowKit Go.Shelf Go.Proofs.YtpljnkfbcgdafaaW.PrintWords Go.Proofs.YtpljnkfbcgdafaaW.PrintLast Go.Proofs.YtpljnkfbcgdafaaW.PrintMore
set_option linter.unusedVariables false
set_option linter.unusedSimpArgs false

theorem do_tail_g {B mb g : Nat} {w V w2 w3 : World} (h1 : Below B w V) (h2 : V.drew.grownBy w2 (some mb)) (h3 : w2.grownBy w3 (some g)) (hb : B ≤ mb ∧ B ≤ g ∧ B ≤ w.heap.size) : Below B w w3 := by
  have h4 : V.drew.heap.size = V.heap.size := rfl
  have h5 := h1.size
  have h6 := h2.size
  exact (h1.trans (below_drew1 (Below.refl _ _))).trans ((below_gr h2 hb.1 (by omega)).trans (below_gr h3 hb.2.1 (by omega)))
theorem do_keep_g {mb g : Nat} {w V w2 w3 : World} (h1 : Below w.heap.size w V) (h2 : V.drew.grownBy w2 (some mb)) (h3 : w2.grownBy w3 (some g)) : ∀ i, i < w.heap.size → i ≠ mb → i ≠ g → w3.heap[i]? = w.heap[i]? := by
  intro i hi hm hg
  have h4 : V.drew.heap = V.heap := rfl
  have h5 := h1.size
  have h6 := h2.size
  rw [h4] at h6
  rw [h3.block i (by omega) (by simpa using hg), h2.block i (by rw [h4]; omega) (by simpa using hm), h4]
  exact h1.block i hi
set_option maxHeartbeats 8000000 in
set_option maxRecDepth 100000 in
theorem do_clear_g (B p mb g : Nat) (W H : Int) (es es' : List Ent) (l l' : List S59) (rS rR : Int) (X Y Rw Rh ow : Int) (w : World) (hs : Sh w p mb W H es) (hr : RSh w g W H l) (hb : B ≤ mb ∧ B ≤ g ∧ B ≤ w.heap.size)
    (hS : ∀ w, Sh w p mb W H es → Calls Try.prog 21 #[.pointer (some ⟨p, 0, none⟩), .int .i64 ow] w fun e w' => e = .returned (.int .i64 rS) ∧ Sh w' p mb W H es' ∧ w.grownBy w' (some mb))
    (hR : ∀ w, RSh w g W H l → Calls Try.prog 23 #[.pointer (some ⟨g, 0, none⟩), .int .i64 ow] w fun e w' => e = .returned (.int .i64 rR) ∧ RSh w' g W H l' ∧ w.grownBy w' (some g)) :
    Calls Try.prog 10 #[.agg #[.bool true, .int .i64 X, .int .i64 Y, .int .i64 Rw, .int .i64 Rh, .int .i64 ow], .pointer (some ⟨p, 0, none⟩), .pointer (some ⟨g, 0, none⟩)] w fun e w' =>
      e = .returned (.bool (rS == rR)) ∧ Sh w' p mb W H es' ∧ RSh w' g W H l' ∧ Below B w w' ∧ ∀ i, i < w.heap.size → i ≠ mb → i ≠ g → w'.heap[i]? = w.heap[i]? := by
  have hu34 := Try.underlying34
  have hu32 := Try.underlying32
  have HCS := Aside0.mk hS
  have HCR := Aside0.mk hR
  have hbx := blk_new w (.cells #[.bool true, .int .i64 X, .int .i64 Y, .int .i64 Rw, .int .i64 Rh, .int .i64 ow] 34)
  have HS := Aside0.mk (hs.below (below_alloc (Below.refl w.heap.size w) (.cells #[.bool true, .int .i64 X, .int .i64 Y, .int .i64 Rw, .int .i64 Rh, .int .i64 ow] 34)))
  have HR := Aside0.mk (hr.below (below_alloc (Below.refl w.heap.size w) (.cells #[.bool true, .int .i64 X, .int .i64 Y, .int .i64 Rw, .int .i64 Rh, .int .i64 ow] 34)))
  have HB := Aside0.mk hb
  have HLT := Aside0.mk (show p < w.heap.size ∧ mb < w.heap.size ∧ g < w.heap.size from ⟨hs.lt, hs.own.lt, hr.lt⟩)
  have HBX := Aside0.mk hbx
  have c0 := cI hbx 0 (v := .bool true) rfl
  have c5 := cI hbx 5 (v := .int .i64 ow) rfl
  have HBK := Aside0.mk (below_alloc (Below.refl w.heap.size w) (.cells #[.bool true, .int .i64 X, .int .i64 Y, .int .i64 Rw, .int .i64 Rh, .int .i64 ow] 34))
  have HBW := Aside0.mk ((below_alloc (Below.refl w.heap.size w) (.cells #[.bool true, .int .i64 X, .int .i64 Y, .int .i64 Rw, .int .i64 Rh, .int .i64 ow] 34)).mono hb.2.2)
  clear hs hr hb hbx hS hR
  go_enter Try.func10, Try.ntmps10
  go_upto_region 2 with (fail)
  obtain ⟨V, hV⟩ : ∃ V, w.alloc (.cells #[.bool true, .int .i64 X, .int .i64 Y, .int .i64 Rw, .int .i64 Rh, .int .i64 ow] 34) = V := ⟨_, rfl⟩
  rw [hV] at HS HR HBX HBW HBK c0 c5 ⊢
  clear hV c0
  go_region_with (first
    | (go_at_call 21; refine (HCS.out _ (HS.out.drewN _)).mono ?_; rintro e w2 ⟨rfl, hs2, hg2⟩; have HS2 := Aside0.mk hs2; have HG2 := Aside0.mk hg2; have hb2 := (hg2.block w.heap.size (blk_lt HBX.out) (by have := HLT.out; simp; omega)).trans HBX.out; have HBX2 := Aside0.mk hb2; have c5' := cI hb2 5 (v := .int .i64 ow) rfl; have hr2 := (HR.out.below (pw_below_drewN (Below.refl _ _) _)).far (HS.out.own.obj.choose_spec.choose_spec) hg2; have HR2 := Aside0.mk hr2; clear hs2 hg2 hb2 hr2)
    | (go_at_call 23; refine (HCR.out _ HR2.out).mono ?_; rintro e w3 ⟨rfl, hr3, hg3⟩; have HR3 := Aside0.mk hr3; have HG3 := Aside0.mk hg3; clear hr3 hg3))
  all_goals go_wp2
  all_goals go_ret
  all_goals exact ⟨rfl, HS2.out.far HR2.out.obj.choose_spec HG3.out, HR3.out, do_tail_g HBW.out HG2.out HG3.out HB.out, do_keep_g HBK.out HG2.out HG3.out⟩
end Go.Proofs.Ytpljnkfbcgdafaa.P

namespace Go.Proofs.Ytpljnkfbcgdafaa.P
open Go.RowKit Go.Shelf Go.Proofs.YtpljnkfbcgdafaaW.PrintWords Go.Proofs.YtpljnkfbcgdafaaW.PrintLast Go.Proofs.YtpljnkfbcgdafaaW.PrintMore
set_option linter.unusedVariables false
set_option linter.unusedSimpArgs false

set_option maxHeartbeats 8000000 in
set_option maxRecDepth 100000 in
theorem do_take_g (B p mb g : Nat) (W H : Int) (es es' : List Ent) (l l' : List S59) (rS rR : Int) (X Y Rw Rh ow : Int) (w : World) (hs : Sh w p mb W H es) (hr : RSh w g W H l) (hb : B ≤ mb ∧ B ≤ g ∧ B ≤ w.heap.size)
    (hS : ∀ w, Sh w p mb W H es → Calls Try.prog 20 #[.pointer (some ⟨p, 0, none⟩), .agg #[.int .i64 X, .int .i64 Y, .int .i64 Rw, .int .i64 Rh], .int .i64 ow] w fun e w' => e = .returned (.int .i64 rS) ∧ Sh w' p mb W H es' ∧ w.grownBy w' (some mb))
    (hR : ∀ w, RSh w g W H l → Calls Try.prog 24 #[.pointer (some ⟨g, 0, none⟩), .agg #[.int .i64 X, .int .i64 Y, .int .i64 Rw, .int .i64 Rh], .int .i64 ow] w fun e w' => e = .returned (.int .i64 rR) ∧ RSh w' g W H l' ∧ w.grownBy w' (some g)) :
    Calls Try.prog 10 #[.agg #[.bool false, .int .i64 X, .int .i64 Y, .int .i64 Rw, .int .i64 Rh, .int .i64 ow], .pointer (some ⟨p, 0, none⟩), .pointer (some ⟨g, 0, none⟩)] w fun e w' =>
      e = .returned (.bool (rS == rR)) ∧ Sh w' p mb W H es' ∧ RSh w' g W H l' ∧ Below B w w' ∧ ∀ i, i < w.heap.size → i ≠ mb → i ≠ g → w'.heap[i]? = w.heap[i]? := by
  have hu34 := Try.underlying34
  have hu32 := Try.underlying32
  have HCS := Aside0.mk hS
  have HCR := Aside0.mk hR
  have hbx := blk_new w (.cells #[.bool false, .int .i64 X, .int .i64 Y, .int .i64 Rw, .int .i64 Rh, .int .i64 ow] 34)
  have HS := Aside0.mk (hs.below (below_alloc (Below.refl w.heap.size w) (.cells #[.bool false, .int .i64 X, .int .i64 Y, .int .i64 Rw, .int .i64 Rh, .int .i64 ow] 34)))
  have HR := Aside0.mk (hr.below (below_alloc (Below.refl w.heap.size w) (.cells #[.bool false, .int .i64 X, .int .i64 Y, .int .i64 Rw, .int .i64 Rh, .int .i64 ow] 34)))
  have HB := Aside0.mk hb
  have HLT := Aside0.mk (show p < w.heap.size ∧ mb < w.heap.size ∧ g < w.heap.size from ⟨hs.lt, hs.own.lt, hr.lt⟩)
  have HBX := Aside0.mk hbx
  have c0 := cI hbx 0 (v := .bool false) rfl
  have c1 := cI hbx 1 (v := .int .i64 X) rfl
  have c2 := cI hbx 2 (v := .int .i64 Y) rfl
  have c3 := cI hbx 3 (v := .int .i64 Rw) rfl
  have c4 := cI hbx 4 (v := .int .i64 Rh) rfl
  have c5 := cI hbx 5 (v := .int .i64 ow) rfl
  have HBK := Aside0.mk (below_alloc (Below.refl w.heap.size w) (.cells #[.bool false, .int .i64 X, .int .i64 Y, .int .i64 Rw, .int .i64 Rh, .int .i64 ow] 34))
  have HBW := Aside0.mk ((below_alloc (Below.refl w.heap.size w) (.cells #[.bool false, .int .i64 X, .int .i64 Y, .int .i64 Rw, .int .i64 Rh, .int .i64 ow] 34)).mono hb.2.2)
  clear hs hr hb hbx hS hR
  go_enter Try.func10, Try.ntmps10
  go_upto_region 3 with (fail)
  obtain ⟨V, hV⟩ : ∃ V, w.alloc (.cells #[.bool false, .int .i64 X, .int .i64 Y, .int .i64 Rw, .int .i64 Rh, .int .i64 ow] 34) = V := ⟨_, rfl⟩
  rw [hV] at HS HR HBX HBW HBK c0 c1 c2 c3 c4 c5 ⊢
  clear hV c0
  go_region_with (first
    | (go_at_call 20; refine (HCS.out _ (HS.out.drewN _)).mono ?_; rintro e w2 ⟨rfl, hs2, hg2⟩; have HS2 := Aside0.mk hs2; have HG2 := Aside0.mk hg2; have hb2 := (hg2.block w.heap.size (blk_lt HBX.out) (by have := HLT.out; simp; omega)).trans HBX.out; have HBX2 := Aside0.mk hb2; have c1' := cI hb2 1 (v := .int .i64 X) rfl; have c2' := cI hb2 2 (v := .int .i64 Y) rfl; have c3' := cI hb2 3 (v := .int .i64 Rw) rfl; have c4' := cI hb2 4 (v := .int .i64 Rh) rfl; have c5' := cI hb2 5 (v := .int .i64 ow) rfl; have hr2 := (HR.out.below (pw_below_drewN (Below.refl _ _) _)).far (HS.out.own.obj.choose_spec.choose_spec) hg2; have HR2 := Aside0.mk hr2; clear hs2 hg2 hb2 hr2)
    | (go_at_call 24; refine (HCR.out _ HR2.out).mono ?_; rintro e w3 ⟨rfl, hr3, hg3⟩; have HR3 := Aside0.mk hr3; have HG3 := Aside0.mk hg3; clear hr3 hg3))
  all_goals go_wp2
  all_goals go_ret
  all_goals exact ⟨rfl, HS2.out.far HR2.out.obj.choose_spec HG3.out, HR3.out, do_tail_g HBW.out HG2.out HG3.out HB.out, do_keep_g HBK.out HG2.out HG3.out⟩
end Go.Proofs.Ytpljnkfbcgdafaa.P

namespace Go.Proofs.Ytpljnkfbcgdafaa.P
open Go.RowKit Go.Shelf Go.Proofs.YtpljnkfbcgdafaaW.PrintWords Go.Proofs.YtpljnkfbcgdafaaW.PrintLast Go.Proofs.YtpljnkfbcgdafaaW.PrintMore
set_option linter.unusedVariables false
set_option linter.unusedSimpArgs false

/-- Both sheets lie here, nothing below B is theirs; the entries are the rects', cell by cell. -/
structure Jn (B : Nat) (w : World) (p mb g : Nat) (W H : Int) (n : Nat) (l : List S59) : Prop where
  s : Sh w p mb W H (cellsL l)
  r : RSh w g W H l
  ok : OkL W H l
  len : l.length ≤ n
  b : B ≤ p ∧ B ≤ mb ∧ B ≤ g ∧ B ≤ w.heap.size
theorem Jn.below {B : Nat} {w w' : World} {p mb g : Nat} {W H : Int} {n : Nat} {l : List S59} (h : Jn B w p mb g W H n l) (hb : Below w.heap.size w w') : Jn B w' p mb g W H n l :=
  ⟨h.s.below hb, h.r.below hb, h.ok, h.len, by have := h.b; have := hb.size; omega⟩
theorem Jn.nd {B : Nat} {w : World} {p mb g : Nat} {W H : Int} {n : Nat} {l : List S59} (h : Jn B w p mb g W H n l) : (cellsL l).Pairwise (fun a b => a.1 ≠ b.1) := h.s.own.nd
theorem Jn.big {B : Nat} {w : World} {p mb g : Nat} {W H : Int} {n : Nat} {l : List S59} (h : Jn B w p mb g W H n l) (hs : Sd W H) (hn : n ≤ 60) : (cellsL l).length ≤ 1000000 ∧ l.length ≤ 1000000 := by
  have h1 := len_cellsL hs l h.ok
  have h2 := h.len
  omega
/-- May an owner take this? -/
def Free (W H : Int) (l : List S59) (X Y Rw Rh ow : Int) : Prop :=
  (liesB X Rw W = true ∧ liesB Y Rh H = true ∧ 1 ≤ ow ∧ ow ≤ 1048576) ∧ ∀ c ∈ upC X Y Rh.toNat (Rw.toNat * Rh.toNat), valE (cellsL l) c.1.1 c.1.2 = 0
theorem Free.ok {W H : Int} {l : List S59} {X Y Rw Rh ow : Int} (h : Free W H l X Y Rw Rh ow) : OkH W H (held X Y Rw Rh ow) := by
  obtain ⟨⟨h1, h2, h3⟩, _⟩ := h
  exact ⟨lies_iff.1 h1, lies_iff.1 h2, h3⟩
/-- Take, on the sheet: done, where it may be. -/
theorem TakeY.calls (p mb : Nat) (W H : Int) (l : List S59) (X Y Rw Rh ow : Int) (hs : Sd W H) (hl : OkL W H l) (hn : l.length ≤ 60) (hf : Free W H l X Y Rw Rh ow) (w : World) (h : Sh w p mb W H (cellsL l)) :
    Calls Try.prog 20 #[.pointer (some ⟨p, 0, none⟩), .agg #[.int .i64 X, .int .i64 Y, .int .i64 Rw, .int .i64 Rh], .int .i64 ow] w fun e w' => e = .returned (.int .i64 0) ∧ Sh w' p mb W H (cellsL (l ++ [held X Y Rw Rh ow])) ∧ w.grownBy w' (some mb) := by
  have hs0 := hs
  unfold Sd at hs0
  have hok := hf.ok
  obtain ⟨⟨h1, h2, h3⟩, hc⟩ := hf
  have k1 := lies_iff.1 h1
  have k2 := lies_iff.1 h2
  obtain ⟨rw_, rfl⟩ : ∃ k : Nat, Rw = (k : Int) := ⟨Rw.toNat, by omega⟩
  obtain ⟨rh, rfl⟩ : ∃ k : Nat, Rh = (k : Int) := ⟨Rh.toNat, by omega⟩
  simp only [Int.toNat_natCast] at hc
  refine (Take_ok.calls p mb W H _ X Y rw_ rh ow w h (by omega) (by omega) h1 h2 h3 (by have := len_cellsL hs l hl; omega)).mono fun e w' hq => ?_
  rcases hq with ⟨_, he, hs', hg⟩ | ⟨⟨c, hm, hx⟩, _⟩
  · rw [take_cells hs hl h.own.nd hok hc] at hs'
    exact ⟨he, hs', hg⟩
  · exact absurd (hc c hm) hx
theorem TakeN.calls (p mb : Nat) (W H : Int) (l : List S59) (X Y Rw Rh ow : Int) (hs : Sd W H) (hl : OkL W H l) (hn : l.length ≤ 60) (hf : ¬ Free W H l X Y Rw Rh ow) (w : World) (h : Sh w p mb W H (cellsL l)) :
    Calls Try.prog 20 #[.pointer (some ⟨p, 0, none⟩), .agg #[.int .i64 X, .int .i64 Y, .int .i64 Rw, .int .i64 Rh], .int .i64 ow] w fun e w' => e = .returned (.int .i64 201) ∧ Sh w' p mb W H (cellsL l) ∧ w.grownBy w' (some mb) := by
  have hs0 := hs
  unfold Sd at hs0
  by_cases hy : liesB X Rw W = true ∧ liesB Y Rh H = true ∧ 1 ≤ ow ∧ ow ≤ 1048576
  · have hy0 := hy
    obtain ⟨h1, h2, h3⟩ := hy
    have k1 := lies_iff.1 h1
    have k2 := lies_iff.1 h2
    obtain ⟨rw_, rfl⟩ : ∃ k : Nat, Rw = (k : Int) := ⟨Rw.toNat, by omega⟩
    obtain ⟨rh, rfl⟩ : ∃ k : Nat, Rh = (k : Int) := ⟨Rh.toNat, by omega⟩
    refine (Take_ok.calls p mb W H _ X Y rw_ rh ow w h (by omega) (by omega) h1 h2 h3 (by have := len_cellsL hs l hl; omega)).mono fun e w' hq => ?_
    rcases hq with ⟨hc, _⟩ | ⟨_, he, hs', hg⟩
    · exact absurd ⟨hy0, by simpa only [Int.toNat_natCast] using hc⟩ hf
    · exact ⟨he, hs', hg⟩
  · exact Take_no.calls p mb W H _ X Y Rw Rh ow w h (by omega) (by omega) hy
theorem cell_of {X Y : Int} {rh n : Nat} {P : CellK → Prop} : (∀ c ∈ upC X Y rh n, P c) ↔ ∀ k : Nat, k < n → P (cellAt X Y rh k) := by
  constructor
  · intro h k hk
    exact h _ (List.mem_map.2 ⟨k, List.mem_range.2 hk, rfl⟩)
  · intro h c hc
    obtain ⟨k, hk, rfl⟩ := List.mem_map.1 hc
    exact h k (List.mem_range.1 hk)
theorem RTakeY.calls (g : Nat) (W H : Int) (l : List S59) (X Y Rw Rh ow : Int) (hs : Sd W H) (hl : OkL W H l) (hn : l.length ≤ 60) (hf : Free W H l X Y Rw Rh ow) (w : World) (h : RSh w g W H l) :
    Calls Try.prog 24 #[.pointer (some ⟨g, 0, none⟩), .agg #[.int .i64 X, .int .i64 Y, .int .i64 Rw, .int .i64 Rh], .int .i64 ow] w fun e w' => e = .returned (.int .i64 0) ∧ RSh w' g W H (l ++ [held X Y Rw Rh ow]) ∧ w.grownBy w' (some g) := by
  have hs0 := hs
  unfold Sd at hs0
  obtain ⟨⟨h1, h2, h3⟩, hc⟩ := hf
  have k1 := lies_iff.1 h1
  have k2 := lies_iff.1 h2
  obtain ⟨rw_, rfl⟩ : ∃ k : Nat, Rw = (k : Int) := ⟨Rw.toNat, by omega⟩
  obtain ⟨rh, rfl⟩ : ∃ k : Nat, Rh = (k : Int) := ⟨Rh.toNat, by omega⟩
  simp only [Int.toNat_natCast] at hc
  refine (RTake_ok.calls g W H l X Y rw_ rh ow w h (by omega) (by omega) h1 h2 h3 (by omega)).mono fun e w' hq => ?_
  rcases hq with ⟨_, hq⟩ | ⟨⟨k, hk, hx⟩, _⟩
  · exact hq
  · rw [← val_rAt hs hl] at hx
    exact absurd ((cell_of (P := fun c => valE (cellsL l) c.1.1 c.1.2 = 0)).1 hc k hk) hx
theorem RTakeN.calls (g : Nat) (W H : Int) (l : List S59) (X Y Rw Rh ow : Int) (hs : Sd W H) (hl : OkL W H l) (hn : l.length ≤ 60) (hf : ¬ Free W H l X Y Rw Rh ow) (w : World) (h : RSh w g W H l) :
    Calls Try.prog 24 #[.pointer (some ⟨g, 0, none⟩), .agg #[.int .i64 X, .int .i64 Y, .int .i64 Rw, .int .i64 Rh], .int .i64 ow] w fun e w' => e = .returned (.int .i64 201) ∧ RSh w' g W H l ∧ w.grownBy w' (some g) := by
  have hs0 := hs
  unfold Sd at hs0
  by_cases hy : liesB X Rw W = true ∧ liesB Y Rh H = true ∧ 1 ≤ ow ∧ ow ≤ 1048576
  · have hy0 := hy
    obtain ⟨h1, h2, h3⟩ := hy
    have k1 := lies_iff.1 h1
    have k2 := lies_iff.1 h2
    obtain ⟨rw_, rfl⟩ : ∃ k : Nat, Rw = (k : Int) := ⟨Rw.toNat, by omega⟩
    obtain ⟨rh, rfl⟩ : ∃ k : Nat, Rh = (k : Int) := ⟨Rh.toNat, by omega⟩
    refine (RTake_ok.calls g W H l X Y rw_ rh ow w h (by omega) (by omega) h1 h2 h3 (by omega)).mono fun e w' hq => ?_
    rcases hq with ⟨hc, _⟩ | ⟨_, hq⟩
    · refine absurd ⟨hy0, ?_⟩ hf
      simp only [Int.toNat_natCast]
      refine (cell_of (P := fun c => valE (cellsL l) c.1.1 c.1.2 = 0)).2 fun k hk => ?_
      rw [val_rAt hs hl]
      exact hc k hk
    · exact hq
  · refine (RTake_no.calls g W H l X Y Rw Rh ow w h (by omega) (by omega) hy).mono fun e w' hq => ?_
    exact ⟨hq.1, h.below hq.2, gB hq.2 _⟩
/-- An act, answered alike. -/
theorem doJ.calls (B p mb g : Nat) (W H : Int) (n : Nat) (l : List S59) (cl : Bool) (X Y Rw Rh ow : Int) (w : World) (hs : Sd W H) (hj : Jn B w p mb g W H n l) (hn : n ≤ 60) :
    Calls Try.prog 10 #[.agg #[.bool cl, .int .i64 X, .int .i64 Y, .int .i64 Rw, .int .i64 Rh, .int .i64 ow], .pointer (some ⟨p, 0, none⟩), .pointer (some ⟨g, 0, none⟩)] w fun e w' =>
      ∃ l', e = .returned (.bool true) ∧ Jn B w' p mb g W H (n + 1) l' ∧ Below B w w' ∧ ∀ i, i < w.heap.size → i ≠ mb → i ≠ g → w'.heap[i]? = w.heap[i]? := by
  have hlen := hj.len
  have hb := hj.b
  have hbig := hj.big hs hn
  cases cl with
  | true =>
    refine (do_clear_g B p mb g W H _ (cellsL (notR ow l)) l (notR ow l) _ _ X Y Rw Rh ow w hj.s hj.r ⟨hb.2.1, hb.2.2.1, hb.2.2.2⟩
      (fun w1 h1 => (Clear.calls p mb W H _ ow w1 h1 hbig.1).mono fun e w' ⟨h2, h3, h4⟩ => ⟨h2, clear_cells ow l ▸ h3, h4⟩)
      (fun w1 h1 => RClearN.calls g W H l ow w1 h1 hbig.2)).mono fun e w' ⟨h1, h2, h3, h4, h5⟩ => ?_
    refine ⟨notR ow l, ?_, ⟨h2, h3, hj.ok.notR ow, ?_, ?_⟩, h4, h5⟩
    · rw [h1, clear_n hs ow hj.ok (by omega)]
      simp
    · have := List.length_filter_le (fun h : S59 => h.f1 != ow) l
      unfold notR; omega
    · have := h4.size; omega
  | false =>
    by_cases hf : Free W H l X Y Rw Rh ow
    · refine (do_take_g B p mb g W H _ (cellsL (l ++ [held X Y Rw Rh ow])) l (l ++ [held X Y Rw Rh ow]) 0 0 X Y Rw Rh ow w hj.s hj.r ⟨hb.2.1, hb.2.2.1, hb.2.2.2⟩
        (fun w1 h1 => TakeY.calls p mb W H l X Y Rw Rh ow hs hj.ok (by omega) hf w1 h1)
        (fun w1 h1 => RTakeY.calls g W H l X Y Rw Rh ow hs hj.ok (by omega) hf w1 h1)).mono fun e w' ⟨h1, h2, h3, h4, h5⟩ => ?_
      refine ⟨_, h1, ⟨h2, h3, hj.ok.snoc hf.ok, ?_, ?_⟩, h4, h5⟩
      · rw [List.length_append, List.length_singleton]; omega
      · have := h4.size; omega
    · refine (do_take_g B p mb g W H _ (cellsL l) l l 201 201 X Y Rw Rh ow w hj.s hj.r ⟨hb.2.1, hb.2.2.1, hb.2.2.2⟩
        (fun w1 h1 => TakeN.calls p mb W H l X Y Rw Rh ow hs hj.ok (by omega) hf w1 h1)
        (fun w1 h1 => RTakeN.calls g W H l X Y Rw Rh ow hs hj.ok (by omega) hf w1 h1)).mono fun e w' ⟨h1, h2, h3, h4, h5⟩ => ?_
      refine ⟨_, h1, ⟨h2, h3, hj.ok, by omega, ?_⟩, h4, h5⟩
      have := h4.size; omega
end Go.Proofs.Ytpljnkfbcgdafaa.P
