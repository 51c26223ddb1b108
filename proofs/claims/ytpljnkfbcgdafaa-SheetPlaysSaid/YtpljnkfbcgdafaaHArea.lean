/- sheet.Area: how many cells an owner has, and the least rect that has them. -/
import Derived.Test.YtpljnkfbcgdafaaHSheet
namespace Go.Proofs.Ytpljnkfbcgdafaa.P
open Go.RowKit Go.Shelf Go.Proofs.YtpljnkfbcgdafaaW.PrintWords Go.Proofs.YtpljnkfbcgdafaaW.PrintLast Go.Proofs.YtpljnkfbcgdafaaW.PrintMore
attribute [local go_sem] max2_int min2_int max_two min_two max_three min_three max_four min_four
set_option linter.unusedVariables false
set_option linter.unusedSimpArgs false

/-- The least rect, as it is found: how many, low, high. -/
structure Ar where
  n : Int
  lx : Int
  ly : Int
  hx : Int
  hy : Int
def arS (ow : Int) (a : Ar) (e : Ent) : Ar := if e.2 = ow then ⟨a.n + 1, if e.1.1 < a.lx then e.1.1 else a.lx, if e.1.2 < a.ly then e.1.2 else a.ly, if a.hx < e.1.1 + 1 then e.1.1 + 1 else a.hx, if a.hy < e.1.2 + 1 then e.1.2 + 1 else a.hy⟩ else a
def arR (a : Ar) : Value := if a.n = 0 then .tuple #[.int .i64 0, .agg #[.int .i64 0, .int .i64 0, .int .i64 0, .int .i64 0]] else .tuple #[.int .i64 a.n, .agg #[.int .i64 a.lx, .int .i64 a.ly, .int .i64 (wrap64 (a.hx - a.lx)), .int .i64 (wrap64 (a.hy - a.ly))]]
theorem ar_n (ow : Int) : ∀ (l : List Ent) (a : Ar), a.n ≤ (l.foldl (arS ow) a).n ∧ (l.foldl (arS ow) a).n ≤ a.n + l.length
  | [], a => by simp
  | e :: r, a => by
    have ih := ar_n ow r (arS ow a e)
    have : a.n ≤ (arS ow a e).n ∧ (arS ow a e).n ≤ a.n + 1 := by unfold arS; split <;> simp <;> omega
    simp only [List.foldl_cons, List.length_cons]
    omega
/-- What Area has in memory. -/
structure AS (w : World) (p mb : Nat) (W H : Int) (es : List Ent) (L Hb : Nat) (a : Ar) (V : World) : Prop where
  sh : Sh V p mb W H es
  res : V.heap[w.heap.size]? = some (.cells #[.int .i64 0, .int .i64 0, .int .i64 0, .int .i64 0] 32 (0, 0))
  lo : V.heap[L]? = some (.cells #[.int .i64 a.lx, .int .i64 a.ly] 57 (0, 0))
  hi : V.heap[Hb]? = some (.cells #[.int .i64 a.hx, .int .i64 a.hy] 57 (0, 0))
  ne : L ≠ Hb ∧ w.heap.size < L ∧ w.heap.size < Hb
  bel : Below w.heap.size w V
section
variable {w V V' : World} {p mb L Hb : Nat} {W H : Int} {es : List Ent} {a : Ar}
theorem AS.kept {row : Option Nat} (h : AS w p mb W H es L Hb a V) (hpm : p < w.heap.size ∧ mb < w.heap.size) (hg : V.grownBy V' row) (hr : ∀ r, row = some r → w.heap.size < r ∧ r ≠ L ∧ r ≠ Hb) : AS w p mb W H es L Hb a V' := by
  refine ⟨h.sh.kept hg (fun e => by have := hr _ e.symm; omega) (fun e => by have := hr _ e.symm; omega), blk_grown h.res hg (fun e => by have := hr _ e.symm; omega), blk_grown h.lo hg (fun e => (hr _ e.symm).2.1 rfl), blk_grown h.hi hg (fun e => (hr _ e.symm).2.2 rfl), h.ne, h.bel.grown hg h.bel.size (fun k e => by have := hr _ e; omega)⟩
theorem grC (w : World) (b i : Nat) (v : Value) : w.grownBy (w.setCell ⟨b, i, none⟩ v) (some b) :=
  ⟨rfl, rfl, rfl, by simp, fun k _ hk => Below.heap_setCell w ⟨b, i, none⟩ v k (fun e => hk (by rw [e]))⟩
theorem AS.two (h : AS w p mb W H es L Hb a V) (hpm : p < w.heap.size ∧ mb < w.heap.size) (B i : Nat) (v : Value) (hB : w.heap.size < B ∧ B ≠ L ∧ B ≠ Hb) : AS w p mb W H es L Hb a (V.setCell ⟨B, i, none⟩ v) := h.kept hpm (grC V B i v) (fun r e => by cases e; exact hB)
theorem AS.setL (h : AS w p mb W H es L Hb a V) (hpm : p < w.heap.size ∧ mb < w.heap.size) (u v : Int) : AS w p mb W H es L Hb { a with lx := u, ly := v } ((V.setCell ⟨L, 0, none⟩ (.int .i64 u)).setCell ⟨L, 1, none⟩ (.int .i64 v)) := by
  have hne := h.ne
  refine ⟨(h.sh.kept (grC V L 0 _) (by simp; omega) (by simp; omega)).kept (grC _ L 1 _) (by simp; omega) (by simp; omega), blk_grown (blk_grown h.res (grC V L 0 _) (by simp; omega)) (grC _ L 1 _) (by simp; omega), blk_put (blk_put h.lo 0 _ rfl) 1 _ rfl, blk_grown (blk_grown h.hi (grC V L 0 _) (by simp; omega)) (grC _ L 1 _) (by simp; omega), hne, (h.bel.setCell (p := ⟨L, 0, none⟩) (by simp only []; omega) _).setCell (p := ⟨L, 1, none⟩) (by simp only []; omega) _⟩
theorem AS.setH (h : AS w p mb W H es L Hb a V) (hpm : p < w.heap.size ∧ mb < w.heap.size) (u v : Int) : AS w p mb W H es L Hb { a with hx := u, hy := v } ((V.setCell ⟨Hb, 0, none⟩ (.int .i64 u)).setCell ⟨Hb, 1, none⟩ (.int .i64 v)) := by
  have hne := h.ne
  refine ⟨(h.sh.kept (grC V Hb 0 _) (by simp; omega) (by simp; omega)).kept (grC _ Hb 1 _) (by simp; omega) (by simp; omega), blk_grown (blk_grown h.res (grC V Hb 0 _) (by simp; omega)) (grC _ Hb 1 _) (by simp; omega), blk_grown (blk_grown h.lo (grC V Hb 0 _) (by simp; omega)) (grC _ Hb 1 _) (by simp; omega), blk_put (blk_put h.hi 0 _ rfl) 1 _ rfl, hne, (h.bel.setCell (p := ⟨Hb, 0, none⟩) (by simp only []; omega) _).setCell (p := ⟨Hb, 1, none⟩) (by simp only []; omega) _⟩
theorem AS.n_ (h : AS w p mb W H es L Hb a V) (k : Int) : AS w p mb W H es L Hb { a with n := k } V := ⟨h.sh, h.res, h.lo, h.hi, h.ne, h.bel⟩
theorem AS.drew (h : AS w p mb W H es L Hb a V) (hpm : p < w.heap.size ∧ mb < w.heap.size) : AS w p mb W H es L Hb a V.drew := h.kept hpm (show V.grownBy V.drew none from ⟨rfl, rfl, rfl, Nat.le_refl _, fun _ _ _ => rfl⟩) (fun r e => by cases e)
end
set_option maxHeartbeats 4000000 in
set_option maxRecDepth 100000 in
theorem Area_nil.calls (ow : Int) (w : World) :
    Calls Try.prog 11 #[.pointer none, .int .i64 ow] w fun e w' => e = .returned (.tuple #[.int .i64 0, .agg #[.int .i64 0, .int .i64 0, .int .i64 0, .int .i64 0]]) ∧ Below w.heap.size w w' := by
  have hu32 := Try.underlying32
  go_enter Try.func11, Try.ntmps11
  go_wp2
  refine bodyPost_ret (results_tc (u := 4) (p := 5) rfl _ _ w.heap.size 32 #[.int .i64 0, .int .i64 0, .int .i64 0, .int .i64 0] (0, 0) _ rfl (blk_new _ _) Try.underlying32 rfl (by kernel_rfl)) rfl ⟨rfl, below_alloc (Below.refl _ _) _⟩
set_option maxHeartbeats 4000000 in
set_option maxRecDepth 100000 in
theorem Area_low.calls (p : Option Addr) (ow : Int) (w : World) (ho : ow < 1) :
    Calls Try.prog 11 #[.pointer p, .int .i64 ow] w fun e w' => e = .returned (.tuple #[.int .i64 0, .agg #[.int .i64 0, .int .i64 0, .int .i64 0, .int .i64 0]]) ∧ Below w.heap.size w w' := by
  cases p with
  | none => exact Area_nil.calls ow w
  | some p =>
    have hu32 := Try.underlying32
    go_enter Try.func11, Try.ntmps11
    go_wp2
    refine bodyPost_ret (results_tc (u := 4) (p := 5) rfl _ _ w.heap.size 32 #[.int .i64 0, .int .i64 0, .int .i64 0, .int .i64 0] (0, 0) _ rfl (blk_new _ _) Try.underlying32 rfl (by kernel_rfl)) rfl ⟨rfl, below_alloc (Below.refl _ _) _⟩
set_option maxHeartbeats 8000000 in
set_option maxRecDepth 100000 in
theorem Area.calls (p mb : Nat) (W H : Int) (es : List Ent) (ow : Int) (w : World) (h : Sh w p mb W H es) (ho : 1 ≤ ow) (hin : ∀ e ∈ es, 0 ≤ e.1.1 ∧ e.1.1 ≤ 1000 ∧ 0 ≤ e.1.2 ∧ e.1.2 ≤ 1000) (hes : es.length ≤ 1000000) :
    Calls Try.prog 11 #[.pointer (some ⟨p, 0, none⟩), .int .i64 ow] w fun e w' => ∃ done : List Ent, done.Perm es ∧ e = .returned (arR (done.foldl (arS ow) ⟨0, W, H, 0, 0⟩)) ∧ Below w.heap.size w w' := by
  have hu32 := Try.underlying32
  have hu52 := Try.underlying52
  have hu57 := Try.underlying57
  have hd : decide (ow < 1) = false := decide_eq_false (by omega)
  have hpm := show p < w.heap.size ∧ mb < w.heap.size from ⟨h.lt, h.own.lt⟩
  have hA := h.kept (World.grownBy_alloc w (.cells #[.int .i64 0, .int .i64 0, .int .i64 0, .int .i64 0] 32) none) (by simp) (by simp)
  have c0 := hA.c0
  have c1 := hA.c1
  have c0a := fun o => (hA.kept (World.grownBy_alloc _ o none) (by simp) (by simp)).c0
  have c1a := fun o => (hA.kept (World.grownBy_alloc _ o none) (by simp) (by simp)).c1
  have c0b := fun o o' => ((hA.kept (World.grownBy_alloc _ o none) (by simp) (by simp)).kept (World.grownBy_alloc _ o' none) (by simp) (by simp)).c0
  have c1b := fun o o' => ((hA.kept (World.grownBy_alloc _ o none) (by simp) (by simp)).kept (World.grownBy_alloc _ o' none) (by simp) (by simp)).c1
  have HPM := Aside0.mk hpm
  have HIN := Aside0.mk hin
  have HES := Aside0.mk hes
  have HA := Aside0.mk h
  have HO := Aside0.mk ho
  clear h ho hin hes hpm hA
  go_enter Try.func11, Try.ntmps11
  go_upto_region 4 with (fail)
  go_cut [7, 8] (fun v7 v8 wc => ∃ (L Hb : Nat), v7 = .pointer (some ⟨L, 0, none⟩) ∧ v8 = .pointer (some ⟨Hb, 0, none⟩) ∧ Aside0 (AS w p mb W H es L Hb ⟨0, W, H, 0, 0⟩ wc))
  case first =>
    go_wp2
    go_region
    · try go_wp2
      go_meet
      case rel => exact ⟨w.heap.size + 1, w.heap.size + 1 + 1, rfl, rfl, ⟨by
        have g1 := World.grownBy_alloc w (.cells #[.int .i64 0, .int .i64 0, .int .i64 0, .int .i64 0] 32) none
        have g2 := World.grownBy_alloc (w.alloc (.cells #[.int .i64 0, .int .i64 0, .int .i64 0, .int .i64 0] 32)) (.cells #[.int .i64 W, .int .i64 H] 57) none
        have g3 := World.grownBy_alloc ((w.alloc (.cells #[.int .i64 0, .int .i64 0, .int .i64 0, .int .i64 0] 32)).alloc (.cells #[.int .i64 W, .int .i64 H] 57)) (.cells #[.int .i64 0, .int .i64 0] 57) none
        have k1 := blk_new (w.alloc (.cells #[.int .i64 0, .int .i64 0, .int .i64 0, .int .i64 0] 32)) (.cells #[.int .i64 W, .int .i64 H] 57)
        have k2 := blk_new ((w.alloc (.cells #[.int .i64 0, .int .i64 0, .int .i64 0, .int .i64 0] 32)).alloc (.cells #[.int .i64 W, .int .i64 H] 57)) (.cells #[.int .i64 0, .int .i64 0] 57)
        simp only [World.size_alloc] at k1 k2
        exact (AS.mk (((HA.out.kept g1 (by simp) (by simp)).kept g2 (by simp) (by simp)).kept g3 (by simp) (by simp)) (blk_alloc (blk_alloc (blk_new w _) _) _) (blk_alloc k1 _) k2 ⟨by omega, by omega, by omega⟩ (below_alloc (below_alloc (below_alloc (Below.refl _ _) _) _) _)).drew HPM.out⟩⟩
    · try go_wp2
      go_meet
      case rel => exact ⟨w.heap.size + 1 + 1, w.heap.size + 1, rfl, rfl, ⟨by
        have g1 := World.grownBy_alloc w (.cells #[.int .i64 0, .int .i64 0, .int .i64 0, .int .i64 0] 32) none
        have g2 := World.grownBy_alloc (w.alloc (.cells #[.int .i64 0, .int .i64 0, .int .i64 0, .int .i64 0] 32)) (.cells #[.int .i64 0, .int .i64 0] 57) none
        have g3 := World.grownBy_alloc ((w.alloc (.cells #[.int .i64 0, .int .i64 0, .int .i64 0, .int .i64 0] 32)).alloc (.cells #[.int .i64 0, .int .i64 0] 57)) (.cells #[.int .i64 W, .int .i64 H] 57) none
        have k1 := blk_new (w.alloc (.cells #[.int .i64 0, .int .i64 0, .int .i64 0, .int .i64 0] 32)) (.cells #[.int .i64 0, .int .i64 0] 57)
        have k2 := blk_new ((w.alloc (.cells #[.int .i64 0, .int .i64 0, .int .i64 0, .int .i64 0] 32)).alloc (.cells #[.int .i64 0, .int .i64 0] 57)) (.cells #[.int .i64 W, .int .i64 H] 57)
        simp only [World.size_alloc] at k1 k2
        exact (AS.mk (((HA.out.kept g1 (by simp) (by simp)).kept g2 (by simp) (by simp)).kept g3 (by simp) (by simp)) (blk_alloc (blk_alloc (blk_new w _) _) _) k2 (blk_alloc k1 _) ⟨by omega, by omega, by omega⟩ (below_alloc (below_alloc (below_alloc (Below.refl _ _) _) _) _)).drew HPM.out⟩⟩
  case rest =>
    obtain ⟨L, Hb, rfl, rfl, HS⟩ := hcut
    have hne := HS.out.ne
    have q2 := HS.out.sh.c2
    obtain ⟨w2, hrun, hrg, hg2, hsz2⟩ := HS.out.sh.own.range
    have HW2 := Aside0.mk (HS.out.kept HPM.out hg2 (fun r e => by cases e))
    have HR2 := Aside0.mk hrg
    have hLl := blk_lt HS.out.lo
    have hHl := blk_lt HS.out.hi
    obtain ⟨R, hR⟩ : ∃ R, wc.heap.size = R := ⟨_, rfl⟩
    rw [hR] at hrun HR2 hLl hHl
    have HNE := Aside0.mk (show L < R ∧ Hb < R ∧ w.heap.size < L ∧ w.heap.size < Hb ∧ L ≠ Hb from ⟨hLl, hHl, hne.2.1, hne.2.2, hne.1⟩)
    clear c0 c1 c0a c1a c0b c1b hg2 hsz2 hR hrg hne hLl hHl
    go_wp2
    try go_frame
    go_loopw [6] (fun p6 wr => ∃ (a : Ar) (done rest : List Ent), p6 = .int .i64 a.n ∧ Aside0 ((done ++ rest).Perm es) ∧ Aside0 (RngE wr mb R es rest) ∧ Aside0 (AS w p mb W H es L Hb a wr) ∧ Aside0 (done.foldl (arS ow) ⟨0, W, H, 0, 0⟩ = a))
      (fun _ wr => wr.rangeLeft mb R)
    case atStart => exact ⟨⟨0, W, H, 0, 0⟩, [], es, rfl, ⟨List.Perm.refl _⟩, HR2, HW2, ⟨rfl⟩⟩
    case round =>
      obtain ⟨a, done, rest, rfl, HP, HR, HAS, HF⟩ := hrel
      clear q2 hrun
      rcases HR.out.next 0 with ⟨hr0, hnx⟩ | ⟨e, r1, r2, w3, hrest, hees, hx, hy, ho, hnx, hrg3, hg3, hsz3, hen, hlt3⟩
      · have l0 := cI HAS.out.lo 0 (v := .int .i64 a.lx) rfl
        have l1 := cI HAS.out.lo 1 (v := .int .i64 a.ly) rfl
        have m0 := cI HAS.out.hi 0 (v := .int .i64 a.hx) rfl
        have m1 := cI HAS.out.hi 1 (v := .int .i64 a.hy) rfl
        have s0 := cI HAS.out.res 0 (v := .int .i64 0) rfl
        have s1 := cI HAS.out.res 1 (v := .int .i64 0) rfl
        have s2 := cI HAS.out.res 2 (v := .int .i64 0) rfl
        have s3 := cI HAS.out.res 3 (v := .int .i64 0) rfl
        have f0 := bF HAS.out.res 0
        have f1 := bF HAS.out.res 1
        have f2 := bF HAS.out.res 2
        have f3 := bF HAS.out.res 3
        have hperm : done.Perm es := by have := HP.out; rw [hr0, List.append_nil] at this; exact this
        have HPP := Aside0.mk hperm
        clear hperm hr0 HR
        by_cases hn : a.n = 0
        · have hnb : (a.n == 0) = true := beq_iff_eq.2 hn
          have HN := Aside0.mk hn
          clear hn
          go_wp2
          refine bodyPost_ret (results_tc (u := 4) (p := 5) rfl _ _ w.heap.size 32 #[.int .i64 0, .int .i64 0, .int .i64 0, .int .i64 0] (0, 0) _ rfl (blk_put (blk_put (blk_put (blk_put HAS.out.res 0 _ rfl) 1 _ rfl) 2 _ rfl) 3 _ rfl) Try.underlying32 rfl (by kernel_rfl)) rfl ⟨done, HPP.out, ?_, ?_⟩
          · rw [HF.out, arR, if_pos HN.out]; rfl
          · exact (((HAS.out.bel.setCell (p := ⟨w.heap.size, 0, none⟩) (Nat.le_refl _) _).setCell (p := ⟨w.heap.size, 1, none⟩) (Nat.le_refl _) _).setCell (p := ⟨w.heap.size, 2, none⟩) (Nat.le_refl _) _).setCell (p := ⟨w.heap.size, 3, none⟩) (Nat.le_refl _) _
        · have hnb : (a.n == 0) = false := beq_eq_false_iff_ne.2 hn
          have HN := Aside0.mk hn
          clear hn
          go_wp2
          go_region
          all_goals go_wp2
          all_goals refine bodyPost_ret (results_tc (u := 4) (p := 5) rfl _ _ w.heap.size 32 #[.int .i64 a.lx, .int .i64 a.ly, .int .i64 (wrap64 (a.hx - a.lx)), .int .i64 (wrap64 (a.hy - a.ly))] (0, 0) _ rfl (blk_put (blk_put (blk_put (blk_put HAS.out.res 0 _ rfl) 1 _ rfl) 2 _ rfl) 3 _ rfl) Try.underlying32 rfl (by kernel_rfl)) rfl ⟨done, HPP.out, ?_, ?_⟩
          all_goals first
            | (rw [HF.out, arR, if_neg HN.out]; rfl)
            | exact below_drew1 ((((HAS.out.bel.setCell (p := ⟨w.heap.size, 0, none⟩) (Nat.le_refl _) _).setCell (p := ⟨w.heap.size, 1, none⟩) (Nat.le_refl _) _).setCell (p := ⟨w.heap.size, 2, none⟩) (Nat.le_refl _) _).setCell (p := ⟨w.heap.size, 3, none⟩) (Nat.le_refl _) _)
      · obtain ⟨⟨x, y⟩, o⟩ := e
        simp only [cv] at hnx hen
        have hrest' := hrest
        have HREST := Aside0.mk hrest
        have hxy := HIN.out _ hees
        have HS3 := HAS.out.kept HPM.out hg3 (fun r e => by cases e; have := HNE.out; omega)
        have HR4 := Aside0.mk (hrg3.kept (World.grownBy_alloc w3 (.cells #[.int .i64 x, .int .i64 y] 57) none) (by simp) (by simp))
        have HS4 := Aside0.mk (HS3.kept HPM.out (World.grownBy_alloc w3 (.cells #[.int .i64 x, .int .i64 y] 57) none) (fun r e => by cases e))
        have HC4 := Aside0.mk (blk_new w3 (.cells #[.int .i64 x, .int .i64 y] 57))
        have HM4 : Aside0 ((w3.alloc (.cells #[.int .i64 x, .int .i64 y] 57)).rangeLeft mb R < wr.rangeLeft mb R) := ⟨by rw [rangeLeft_kept (Below.heap_alloc w3 _ mb hrg3.blt.1) (Below.heap_alloc w3 _ R hrg3.blt.2.1)]; exact hlt3⟩
        have HPP : Aside0 (((done ++ [((x, y), o)]) ++ (r1 ++ r2)).Perm es) := ⟨by
          refine List.Perm.trans ?_ HP.out
          rw [hrest', List.append_assoc]
          exact List.Perm.append_left _ (List.perm_middle (l₁ := r1)).symm⟩
        have HLT : Aside0 (L < w3.heap.size ∧ Hb < w3.heap.size ∧ R < w3.heap.size) := ⟨blk_lt HS3.lo, blk_lt HS3.hi, hrg3.blt.2.1⟩
        clear hrest hrest' hees hrg3 hg3 hsz3 hlt3 HS3
        by_cases hoo : o = ow
        · have hob : (o != ow) = false := bne_eq_false_iff_eq.2 hoo
          have HOO := Aside0.mk hoo
          have l0 := cI HS4.out.lo 0 (v := .int .i64 a.lx) rfl
          have l1 := cI HS4.out.lo 1 (v := .int .i64 a.ly) rfl
          have e0 := bF HS4.out.lo 0
          have e1 := bF HS4.out.lo 1
          have hlen : done.length + 1 ≤ es.length := by have := HPP.out.length_eq; simp only [List.length_append, List.length_singleton] at this; omega
          have hnn := ar_n ow done ⟨0, W, H, 0, 0⟩
          rw [HF.out] at hnn
          simp only [] at hnn
          have HWN := Aside0.mk (show wrap64 (a.n + 1) = a.n + 1 by have := HES.out; unfold wrap64; omega)
          have wx : wrap64 (x + 1) = x + 1 := by simp only [] at hxy; unfold wrap64; omega
          have wy : wrap64 (y + 1) = y + 1 := by simp only [] at hxy; unfold wrap64; omega
          clear hoo hlen hnn
          go_upto_region 11 with (fail)
          have HS5 := Aside0.mk (HS4.out.setL HPM.out (if x < a.lx then x else a.lx) (if y < a.ly then y else a.ly))
          have hC5 := blk_grown (blk_grown HC4.out (grC _ L 0 (.int .i64 (if x < a.lx then x else a.lx))) (by have := HLT.out; simp; omega)) (grC _ L 1 (.int .i64 (if y < a.ly then y else a.ly))) (by have := HLT.out; simp; omega)
          have hR5 := (HR4.out.kept (grC _ L 0 (.int .i64 (if x < a.lx then x else a.lx))) (by have := HNE.out; have := HPM.out; simp; omega) (by have := HNE.out; simp; omega)).kept (grC _ L 1 (.int .i64 (if y < a.ly then y else a.ly))) (by have := HNE.out; have := HPM.out; simp; omega) (by have := HNE.out; simp; omega)
          have hM5 := HM4.out
          rw [← rangeLeft_kept (((grC _ L 0 (.int .i64 (if x < a.lx then x else a.lx))).block mb HR4.out.blt.1 (by have := HNE.out; have := HPM.out; simp; omega))) ((grC _ L 0 (.int .i64 (if x < a.lx then x else a.lx))).block R HR4.out.blt.2.1 (by have := HNE.out; simp; omega))] at hM5
          obtain ⟨X1, hX1⟩ : ∃ X1, (((w3.alloc (.cells #[.int .i64 x, .int .i64 y] 57)).setCell ⟨L, 0, none⟩ (.int .i64 (if x < a.lx then x else a.lx))).setCell ⟨L, 1, none⟩ (.int .i64 (if y < a.ly then y else a.ly))) = X1 := ⟨_, rfl⟩
          rw [hX1]
          rw [hX1] at HS5 hC5 hR5
          have HR5 := Aside0.mk hR5
          have HM5 : Aside0 (X1.rangeLeft mb R < wr.rangeLeft mb R) := ⟨by
            rw [← hX1, rangeLeft_kept ((grC _ L 1 _).block mb (by simp; have := HPM.out; have := HLT.out; have := HNE.out; omega) (by have := HNE.out; have := HPM.out; simp; omega)) ((grC _ L 1 _).block R (by simp; have := HLT.out; omega) (by have := HNE.out; simp; omega))]
            exact hM5⟩
          have m0 := cI HS5.out.hi 0 (v := .int .i64 a.hx) rfl
          have m1 := cI HS5.out.hi 1 (v := .int .i64 a.hy) rfl
          have g0 := bF HS5.out.hi 0
          have g1 := bF HS5.out.hi 1
          have k0 := cI hC5 0 (v := .int .i64 x) rfl
          have k1 := cI hC5 1 (v := .int .i64 y) rfl
          clear hX1 hC5 hR5 hM5 l0 l1 e0 e1
          go_wp2
          go_roundw
          case rel => exact ⟨arS ow a ((x, y), o), done ++ [((x, y), o)], r1 ++ r2, by rw [HWN.out, arS, if_pos HOO.out], HPP,
            ⟨(HR5.out.kept (grC X1 Hb 0 _) (by have := HNE.out; have := HPM.out; simp; omega) (by have := HNE.out; simp; omega)).kept (grC _ Hb 1 _) (by have := HNE.out; have := HPM.out; simp; omega) (by have := HNE.out; simp; omega)⟩,
            ⟨by rw [arS, if_pos HOO.out]; exact (HS5.out.setH HPM.out _ _).n_ _⟩, ⟨by rw [List.foldl_append, HF.out]; rfl⟩⟩
          case measure =>
            rw [rangeLeft_kept ((grC _ Hb 1 _).block mb (by simp; exact HR5.out.blt.1) (by have := HNE.out; have := HPM.out; simp; omega)) ((grC _ Hb 1 _).block R (by simp; exact HR5.out.blt.2.1) (by have := HNE.out; simp; omega)),
              rangeLeft_kept ((grC X1 Hb 0 _).block mb HR5.out.blt.1 (by have := HNE.out; have := HPM.out; simp; omega)) ((grC X1 Hb 0 _).block R HR5.out.blt.2.1 (by have := HNE.out; simp; omega))]
            exact HM5.out
        · have hob : (o != ow) = true := bne_iff_ne.2 hoo
          have HOO := Aside0.mk hoo
          clear hoo
          go_wp2
          go_roundw
          case rel => exact ⟨a, done ++ [((x, y), o)], r1 ++ r2, rfl, HPP, HR4, HS4, ⟨by rw [List.foldl_append, HF.out]; exact if_neg HOO.out⟩⟩
          case measure => exact HM4.out
end Go.Proofs.Ytpljnkfbcgdafaa.P
