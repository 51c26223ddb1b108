/- The document's Area. -/
import Derived.Test.YtpljnkfbcgdafaaHRef
namespace Go.Proofs.Ytpljnkfbcgdafaa.P
open Go.RowKit Go.Shelf Go.Proofs.YtpljnkfbcgdafaaW.PrintWords Go.Proofs.YtpljnkfbcgdafaaW.PrintLast Go.Proofs.YtpljnkfbcgdafaaW.PrintMore
attribute [local go_sem] max2_int min2_int max_two min_two max_three min_three max_four min_four
set_option linter.unusedVariables false
set_option linter.unusedSimpArgs false

/-- How many, and the rect. -/
structure Ra where
  n : Int
  x : Int
  y : Int
  W : Int
  H : Int
def ra0 (a : Ra) (q : S32) : Ra := if a.n = 0 then ⟨a.n, q.f0, q.f1, q.f2, q.f3⟩ else a
def maxI (a b : Int) : Int := if a < b then b else a
def minI (a b : Int) : Int := if b < a then b else a
def ra1 (b : Ra) (q : S32) : Ra :=
  ⟨wrap64 (b.n + wrap64 (q.f2 * q.f3)), minI b.x q.f0, minI b.y q.f1, wrap64 (maxI (wrap64 (b.x + b.W)) (wrap64 (q.f0 + q.f2)) - minI b.x q.f0), wrap64 (maxI (wrap64 (b.y + b.H)) (wrap64 (q.f1 + q.f3)) - minI b.y q.f1)⟩
def raS (ow : Int) (a : Ra) (h : S59) : Ra := if h.f1 = ow then ra1 (ra0 a h.f0) h.f0 else a
def raR (a : Ra) : Value := .tuple #[.int .i64 a.n, .agg #[.int .i64 a.x, .int .i64 a.y, .int .i64 a.W, .int .i64 a.H]]
/-- What Area has in memory: the result at R, the rect at R + 1. -/
structure RS (w : World) (a : Ra) (V : World) : Prop where
  res : V.heap[w.heap.size]? = some (.cells #[.int .i64 0, .int .i64 0, .int .i64 0, .int .i64 0] 32 (0, 0))
  r : V.heap[w.heap.size + 1]? = some (.cells #[.int .i64 a.x, .int .i64 a.y, .int .i64 a.W, .int .i64 a.H] 32 (0, 0))
  bel : Below w.heap.size w V
theorem grC3 (w : World) (b i : Nat) (v : Value) : w.grownBy (w.setCell ⟨b, i, none⟩ v) (some b) :=
  ⟨rfl, rfl, rfl, by simp, fun k _ hk => Below.heap_setCell w ⟨b, i, none⟩ v k (fun e => hk (by rw [e]))⟩
section
variable {w V V' : World} {a : Ra}
theorem RS.below (h : RS w a V) (hb : Below V.heap.size V V') : RS w a V' := ⟨blk_below h.res hb, blk_below h.r hb, h.bel.trans (hb.mono h.bel.size)⟩
theorem RS.set (h : RS w a V) (i : Nat) (v : Int) (a' : Ra) (he : (#[Value.int .i64 a.x, .int .i64 a.y, .int .i64 a.W, .int .i64 a.H] : Array Value).setIfInBounds i (.int .i64 v) = #[.int .i64 a'.x, .int .i64 a'.y, .int .i64 a'.W, .int .i64 a'.H]) : RS w a' (V.setCell ⟨w.heap.size + 1, i, none⟩ (.int .i64 v)) :=
  ⟨blk_grown h.res (grC3 V _ i _) (by simp), blk_put h.r i _ he, h.bel.setCell (p := ⟨w.heap.size + 1, i, none⟩) (by simp) _⟩
theorem RS.all (h : RS w a V) (x y W H n : Int) : RS w ⟨n, x, y, W, H⟩ ((((V.setCell ⟨w.heap.size + 1, 0, none⟩ (.int .i64 x)).setCell ⟨w.heap.size + 1, 1, none⟩ (.int .i64 y)).setCell ⟨w.heap.size + 1, 2, none⟩ (.int .i64 W)).setCell ⟨w.heap.size + 1, 3, none⟩ (.int .i64 H)) :=
  (((h.set 0 x ⟨n, x, a.y, a.W, a.H⟩ rfl).set 1 y ⟨n, x, y, a.W, a.H⟩ rfl).set 2 W ⟨n, x, y, W, a.H⟩ rfl).set 3 H ⟨n, x, y, W, H⟩ rfl
end
set_option maxHeartbeats 8000000 in
set_option maxRecDepth 100000 in
theorem RArea.calls (g : Nat) (W H : Int) (l : List S59) (ow : Int) (w : World) (h : RSh w g W H l) (hl : l.length ≤ 1000000) :
    Calls Try.prog 12 #[.pointer (some ⟨g, 0, none⟩), .int .i64 ow] w fun e w' => e = .returned (raR (l.foldl (raS ow) ⟨0, 0, 0, 0, 0⟩)) ∧ Below w.heap.size w w' := by
  have hu32 := Try.underlying32
  have hu55 := Try.underlying55
  have hu59 := Try.underlying59
  have HW := Aside0.mk h
  have HL := Aside0.mk hl
  have HGL := Aside0.mk h.lt
  have r1 := blk_new w (.cells #[.int .i64 0, .int .i64 0, .int .i64 0, .int .i64 0] 32)
  have r2 := blk_new (w.alloc (.cells #[.int .i64 0, .int .i64 0, .int .i64 0, .int .i64 0] 32)) (.cells #[.int .i64 0, .int .i64 0, .int .i64 0, .int .i64 0] 32)
  rw [World.size_alloc] at r2
  have HS0 : Aside0 (RS w ⟨0, 0, 0, 0, 0⟩ ((w.alloc (.cells #[.int .i64 0, .int .i64 0, .int .i64 0, .int .i64 0] 32)).alloc (.cells #[.int .i64 0, .int .i64 0, .int .i64 0, .int .i64 0] 32))) := ⟨⟨blk_alloc r1 _, r2, below_alloc (below_alloc (Below.refl _ _) _) _⟩⟩
  clear h hl r1 r2
  go_enter Try.func12, Try.ntmps12
  go_wp2
  go_loopg [6, 8] l.length (fun kq v6 v8 wr => ∃ (a : Ra) (i : Nat), v6 = .int .i64 a.n ∧ v8 = .int .i64 (i : Int) ∧ Aside0 (i + kq = l.length) ∧ Aside0 (RS w a wr) ∧ Aside0 ((l.take i).foldl (raS ow) ⟨0, 0, 0, 0, 0⟩ = a))
  case atStart => exact ⟨⟨0, 0, 0, 0, 0⟩, 0, rfl, rfl, ⟨by omega⟩, HS0, ⟨by simp⟩⟩
  case round =>
    obtain ⟨a, i, rfl, rfl, HI, HS, HF⟩ := hrel
    obtain ⟨A, c, hg, hC, hc⟩ := HW.out.below HS.out.bel
    have c2 := cI hg 2 (v := .slice A l.length c) rfl
    by_cases ci : i < l.length
    · have cb : decide (i < l.length) = true := decide_eq_true ci
      have cl : (i < l.length) = True := eq_true ci
      obtain ⟨d, rfl⟩ : ∃ d, gk = d + 1 := ⟨gk - 1, by have := HI.out; omega⟩
      obtain ⟨ad, ea, x0, x1, x2, x3, x4⟩ := at_T59 hC (i : Int) (by omega) (by omega)
      subst ea
      simp only [Int.toNat_natCast] at x0 x1 x2 x3 x4
      have HFS : Aside0 ((l.take (i + 1)).foldl (raS ow) ⟨0, 0, 0, 0, 0⟩ = raS ow a (rd_T59 l (i : Int))) := ⟨by
        have e : rd_T59 l (i : Int) = l[i] := by unfold rd_T59; simp [List.getD_eq_getElem?_getD, List.getElem?_eq_getElem ci]
        rw [List.take_succ_eq_append_getElem ci, List.foldl_append, HF.out, e]; rfl⟩
      obtain ⟨q, hq⟩ : ∃ q, rd_T59 l (i : Int) = q := ⟨_, rfl⟩
      have HWI := Aside0.mk (show wrap64 ((i : Int) + 1) = ((i + 1 : Nat) : Int) by have := HL.out; unfold wrap64; omega)
      rw [hq] at x0 x1 x2 x3 x4 HFS
      clear hq hg hC hc ci HF
      by_cases ho : q.f1 = ow
      · have hob : (q.f1 != ow) = false := bne_eq_false_iff_eq.2 ho
        have HO := Aside0.mk ho
        clear ho
        go_upto_region 8 with (fail)
        have hbl := HS.out.below (below_alloc (Below.refl wr.heap.size wr) (.cells #[.int .i64 q.f0.f0, .int .i64 q.f0.f1, .int .i64 q.f0.f2, .int .i64 q.f0.f3] 32))
        have hqb := blk_new wr (.cells #[.int .i64 q.f0.f0, .int .i64 q.f0.f1, .int .i64 q.f0.f2, .int .i64 q.f0.f3] 32)
        have hQl : w.heap.size + 1 < wr.heap.size := blk_lt HS.out.r
        obtain ⟨X0, hX0⟩ : ∃ X0, wr.alloc (.cells #[.int .i64 q.f0.f0, .int .i64 q.f0.f1, .int .i64 q.f0.f2, .int .i64 q.f0.f3] 32) = X0 := ⟨_, rfl⟩
        obtain ⟨Q, hQ⟩ : ∃ Q, wr.heap.size = Q := ⟨_, rfl⟩
        rw [hX0] at hbl hqb
        rw [hX0]
        rw [hQ] at hqb hQl ⊢
        have HQL := Aside0.mk hQl
        have HX0 := Aside0.mk hbl
        have HQ0 := Aside0.mk hqb
        clear hbl hqb hQl hX0 hQ x0 x1 x2 x3 x4 c2
        have h0n : (ra0 a q.f0).n = a.n := by unfold ra0; split <;> rfl
        by_cases hn : a.n = 0
        · have hnb : (a.n == 0) = true := beq_iff_eq.2 hn
          have j0 := cI HQ0.out 0 (v := .int .i64 q.f0.f0) rfl
          have j1 := cI HQ0.out 1 (v := .int .i64 q.f0.f1) rfl
          have j2 := cI HQ0.out 2 (v := .int .i64 q.f0.f2) rfl
          have j3 := cI HQ0.out 3 (v := .int .i64 q.f0.f3) rfl
          have i0 := cI HX0.out.r 0 (v := .int .i64 a.x) rfl
          have i1 := cI HX0.out.r 1 (v := .int .i64 a.y) rfl
          have i2 := cI HX0.out.r 2 (v := .int .i64 a.W) rfl
          have i3 := cI HX0.out.r 3 (v := .int .i64 a.H) rfl
          have f0 := bF HX0.out.r 0
          have f1 := bF HX0.out.r 1
          have f2 := bF HX0.out.r 2
          have f3 := bF HX0.out.r 3
          have HNN := Aside0.mk hn
          clear hn
          go_upto_region 10 with (fail)
          have hb1 := HX0.out.all q.f0.f0 q.f0.f1 q.f0.f2 q.f0.f3 a.n
          have hq1 := blk_grown (blk_grown (blk_grown (blk_grown HQ0.out (grC3 X0 (w.heap.size + 1) 0 (.int .i64 q.f0.f0)) (by have := HQL.out; simp; omega)) (grC3 _ (w.heap.size + 1) 1 (.int .i64 q.f0.f1)) (by have := HQL.out; simp; omega)) (grC3 _ (w.heap.size + 1) 2 (.int .i64 q.f0.f2)) (by have := HQL.out; simp; omega)) (grC3 _ (w.heap.size + 1) 3 (.int .i64 q.f0.f3)) (by have := HQL.out; simp; omega)
          obtain ⟨X1, hX1⟩ : ∃ X1, (((X0.setCell ⟨w.heap.size + 1, 0, none⟩ (.int .i64 q.f0.f0)).setCell ⟨w.heap.size + 1, 1, none⟩ (.int .i64 q.f0.f1)).setCell ⟨w.heap.size + 1, 2, none⟩ (.int .i64 q.f0.f2)).setCell ⟨w.heap.size + 1, 3, none⟩ (.int .i64 q.f0.f3) = X1 := ⟨_, rfl⟩
          rw [hX1] at hb1 hq1
          rw [hX1]
          rw [show (⟨a.n, q.f0.f0, q.f0.f1, q.f0.f2, q.f0.f3⟩ : Ra) = ra0 a q.f0 from (if_pos HNN.out).symm] at hb1
          obtain ⟨b, hb⟩ : ∃ b, ra0 a q.f0 = b := ⟨_, rfl⟩
          have HBE := Aside0.mk hb
          rw [hb] at hb1 h0n
          have hbn := h0n
          clear hX1 hb h0n i0 i1 i2 i3 j0 j1 j2 j3 f0 f1 f2 f3
          have HB1 := Aside0.mk hb1
          have HQ1 := Aside0.mk hq1
          have HN := Aside0.mk hbn
          have m0 := cI hb1.r 0 (v := .int .i64 b.x) rfl
          have m1 := cI hb1.r 1 (v := .int .i64 b.y) rfl
          have m2 := cI hb1.r 2 (v := .int .i64 b.W) rfl
          have m3 := cI hb1.r 3 (v := .int .i64 b.H) rfl
          have n0 := bF hb1.r 0
          have k0 := cI hq1 0 (v := .int .i64 q.f0.f0) rfl
          have k1 := cI hq1 1 (v := .int .i64 q.f0.f1) rfl
          have k2 := cI hq1 2 (v := .int .i64 q.f0.f2) rfl
          have k3 := cI hq1 3 (v := .int .i64 q.f0.f3) rfl
          clear hb1 hq1 hbn
          go_upto_region 13 with (fail)
          obtain ⟨rr, hrr⟩ : ∃ rr, (if wrap64 (b.x + b.W) < wrap64 (q.f0.f0 + q.f0.f2) then wrap64 (q.f0.f0 + q.f0.f2) else wrap64 (b.x + b.W)) = rr := ⟨_, rfl⟩
          obtain ⟨ll, hll⟩ : ∃ ll, (if wrap64 (b.y + b.H) < wrap64 (q.f0.f1 + q.f0.f3) then wrap64 (q.f0.f1 + q.f0.f3) else wrap64 (b.y + b.H)) = ll := ⟨_, rfl⟩
          rw [hrr, hll]
          have HRR := Aside0.mk hrr
          have HLL := Aside0.mk hll
          clear hrr hll
          go_upto_region 14 with (fail)
          obtain ⟨x', hx'⟩ : ∃ x', (if q.f0.f0 < b.x then q.f0.f0 else b.x) = x' := ⟨_, rfl⟩
          obtain ⟨X2, hX2⟩ : ∃ X2, X1.setCell ⟨w.heap.size + 1, 0, none⟩ (.int .i64 (if q.f0.f0 < b.x then q.f0.f0 else b.x)) = X2 := ⟨_, rfl⟩
          rw [hX2]
          try rw [hx']
          rw [hx'] at hX2
          have HB2 : Aside0 (RS w ⟨b.n, x', b.y, b.W, b.H⟩ X2) := ⟨by rw [← hX2]; exact HB1.out.set 0 x' _ rfl⟩
          have HQ2 : Aside0 (X2.heap[Q]? = some (.cells #[.int .i64 q.f0.f0, .int .i64 q.f0.f1, .int .i64 q.f0.f2, .int .i64 q.f0.f3] 32 (0, 0))) := ⟨by rw [← hX2]; exact blk_grown HQ1.out (grC3 X1 _ 0 _) (by have := HQL.out; simp; omega)⟩
          have HX1 := Aside0.mk hx'
          clear hX2 hx' m0 m1 m2 m3 n0 k0 k1 k2 k3
          have m1 := cI HB2.out.r 1 (v := .int .i64 b.y) rfl
          have n1 := bF HB2.out.r 1
          have k1 := cI HQ2.out 1 (v := .int .i64 q.f0.f1) rfl
          go_upto_region 15 with (fail)
          obtain ⟨y', hy'⟩ : ∃ y', (if q.f0.f1 < b.y then q.f0.f1 else b.y) = y' := ⟨_, rfl⟩
          obtain ⟨X3, hX3⟩ : ∃ X3, X2.setCell ⟨w.heap.size + 1, 1, none⟩ (.int .i64 (if q.f0.f1 < b.y then q.f0.f1 else b.y)) = X3 := ⟨_, rfl⟩
          rw [hX3]
          try rw [hy']
          rw [hy'] at hX3
          have HB3 : Aside0 (RS w ⟨b.n, x', y', b.W, b.H⟩ X3) := ⟨by rw [← hX3]; exact HB2.out.set 1 y' _ rfl⟩
          have HY1 := Aside0.mk hy'
          clear hX3 hy' m1 n1 k1
          have m0 := cI HB3.out.r 0 (v := .int .i64 x') rfl
          have m2 := cI HB3.out.r 2 (v := .int .i64 b.W) rfl
          have n2 := bF HB3.out.r 2
          go_upto_region 16 with (fail)
          obtain ⟨W', hW'⟩ : ∃ W', wrap64 (rr - x') = W' := ⟨_, rfl⟩
          obtain ⟨X4, hX4⟩ : ∃ X4, X3.setCell ⟨w.heap.size + 1, 2, none⟩ (.int .i64 (wrap64 (rr - x'))) = X4 := ⟨_, rfl⟩
          rw [hX4]
          rw [hW'] at hX4
          have HB4 : Aside0 (RS w ⟨b.n, x', y', W', b.H⟩ X4) := ⟨by rw [← hX4]; exact HB3.out.set 2 W' _ rfl⟩
          have HW1 := Aside0.mk hW'
          clear hX4 hW' m0 m2 n2
          have m1 := cI HB4.out.r 1 (v := .int .i64 y') rfl
          have m3 := cI HB4.out.r 3 (v := .int .i64 b.H) rfl
          have n3 := bF HB4.out.r 3
          go_wp2
          go_roundg d
          case measure => have := HI.out; omega
          case rel =>
            have hra : raS ow a q = ⟨wrap64 (a.n + wrap64 (q.f0.f2 * q.f0.f3)), x', y', W', wrap64 (ll - y')⟩ := by
              rw [raS, if_pos HO.out, HBE.out, ra1, HN.out, ← HW1.out, ← HX1.out, ← HY1.out, ← HRR.out, ← HLL.out]
              rfl
            exact ⟨raS ow a q, i + 1, by rw [hra], by rw [HWI.out], ⟨by have := HI.out; omega⟩, ⟨by rw [hra]; exact HB4.out.set 3 _ _ rfl⟩, HFS⟩
        · have hnb : (a.n == 0) = false := beq_eq_false_iff_ne.2 hn
          have hb1 := HX0.out
          have hq1 := HQ0.out
          have HNN := Aside0.mk hn
          obtain ⟨b, hb⟩ : ∃ b, ra0 a q.f0 = b := ⟨_, rfl⟩
          have HBE := Aside0.mk hb
          have hab : a = ra0 a q.f0 := (if_neg hn).symm
          have hb1 : RS w b X0 := by rw [← hb, ← hab]; exact HX0.out
          rw [hb] at h0n
          have hbn := h0n
          obtain ⟨X1, hX1⟩ : ∃ X1, X0 = X1 := ⟨_, rfl⟩
          clear hb h0n hab hn
          go_upto_region 10 with (fail)
          rw [hX1] at hb1 hq1
          first | rw [hX1] | skip
          clear hX1
          have HB1 := Aside0.mk hb1
          have HQ1 := Aside0.mk hq1
          have HN := Aside0.mk hbn
          have m0 := cI hb1.r 0 (v := .int .i64 b.x) rfl
          have m1 := cI hb1.r 1 (v := .int .i64 b.y) rfl
          have m2 := cI hb1.r 2 (v := .int .i64 b.W) rfl
          have m3 := cI hb1.r 3 (v := .int .i64 b.H) rfl
          have n0 := bF hb1.r 0
          have k0 := cI hq1 0 (v := .int .i64 q.f0.f0) rfl
          have k1 := cI hq1 1 (v := .int .i64 q.f0.f1) rfl
          have k2 := cI hq1 2 (v := .int .i64 q.f0.f2) rfl
          have k3 := cI hq1 3 (v := .int .i64 q.f0.f3) rfl
          clear hb1 hq1 hbn
          go_upto_region 13 with (fail)
          obtain ⟨rr, hrr⟩ : ∃ rr, (if wrap64 (b.x + b.W) < wrap64 (q.f0.f0 + q.f0.f2) then wrap64 (q.f0.f0 + q.f0.f2) else wrap64 (b.x + b.W)) = rr := ⟨_, rfl⟩
          obtain ⟨ll, hll⟩ : ∃ ll, (if wrap64 (b.y + b.H) < wrap64 (q.f0.f1 + q.f0.f3) then wrap64 (q.f0.f1 + q.f0.f3) else wrap64 (b.y + b.H)) = ll := ⟨_, rfl⟩
          rw [hrr, hll]
          have HRR := Aside0.mk hrr
          have HLL := Aside0.mk hll
          clear hrr hll
          go_upto_region 14 with (fail)
          obtain ⟨x', hx'⟩ : ∃ x', (if q.f0.f0 < b.x then q.f0.f0 else b.x) = x' := ⟨_, rfl⟩
          obtain ⟨X2, hX2⟩ : ∃ X2, X1.setCell ⟨w.heap.size + 1, 0, none⟩ (.int .i64 (if q.f0.f0 < b.x then q.f0.f0 else b.x)) = X2 := ⟨_, rfl⟩
          rw [hX2]
          try rw [hx']
          rw [hx'] at hX2
          have HB2 : Aside0 (RS w ⟨b.n, x', b.y, b.W, b.H⟩ X2) := ⟨by rw [← hX2]; exact HB1.out.set 0 x' _ rfl⟩
          have HQ2 : Aside0 (X2.heap[Q]? = some (.cells #[.int .i64 q.f0.f0, .int .i64 q.f0.f1, .int .i64 q.f0.f2, .int .i64 q.f0.f3] 32 (0, 0))) := ⟨by rw [← hX2]; exact blk_grown HQ1.out (grC3 X1 _ 0 _) (by have := HQL.out; simp; omega)⟩
          have HX1 := Aside0.mk hx'
          clear hX2 hx' m0 m1 m2 m3 n0 k0 k1 k2 k3
          have m1 := cI HB2.out.r 1 (v := .int .i64 b.y) rfl
          have n1 := bF HB2.out.r 1
          have k1 := cI HQ2.out 1 (v := .int .i64 q.f0.f1) rfl
          go_upto_region 15 with (fail)
          obtain ⟨y', hy'⟩ : ∃ y', (if q.f0.f1 < b.y then q.f0.f1 else b.y) = y' := ⟨_, rfl⟩
          obtain ⟨X3, hX3⟩ : ∃ X3, X2.setCell ⟨w.heap.size + 1, 1, none⟩ (.int .i64 (if q.f0.f1 < b.y then q.f0.f1 else b.y)) = X3 := ⟨_, rfl⟩
          rw [hX3]
          try rw [hy']
          rw [hy'] at hX3
          have HB3 : Aside0 (RS w ⟨b.n, x', y', b.W, b.H⟩ X3) := ⟨by rw [← hX3]; exact HB2.out.set 1 y' _ rfl⟩
          have HY1 := Aside0.mk hy'
          clear hX3 hy' m1 n1 k1
          have m0 := cI HB3.out.r 0 (v := .int .i64 x') rfl
          have m2 := cI HB3.out.r 2 (v := .int .i64 b.W) rfl
          have n2 := bF HB3.out.r 2
          go_upto_region 16 with (fail)
          obtain ⟨W', hW'⟩ : ∃ W', wrap64 (rr - x') = W' := ⟨_, rfl⟩
          obtain ⟨X4, hX4⟩ : ∃ X4, X3.setCell ⟨w.heap.size + 1, 2, none⟩ (.int .i64 (wrap64 (rr - x'))) = X4 := ⟨_, rfl⟩
          rw [hX4]
          rw [hW'] at hX4
          have HB4 : Aside0 (RS w ⟨b.n, x', y', W', b.H⟩ X4) := ⟨by rw [← hX4]; exact HB3.out.set 2 W' _ rfl⟩
          have HW1 := Aside0.mk hW'
          clear hX4 hW' m0 m2 n2
          have m1 := cI HB4.out.r 1 (v := .int .i64 y') rfl
          have m3 := cI HB4.out.r 3 (v := .int .i64 b.H) rfl
          have n3 := bF HB4.out.r 3
          go_wp2
          go_roundg d
          case measure => have := HI.out; omega
          case rel =>
            have hra : raS ow a q = ⟨wrap64 (a.n + wrap64 (q.f0.f2 * q.f0.f3)), x', y', W', wrap64 (ll - y')⟩ := by
              rw [raS, if_pos HO.out, HBE.out, ra1, HN.out, ← HW1.out, ← HX1.out, ← HY1.out, ← HRR.out, ← HLL.out]
              rfl
            exact ⟨raS ow a q, i + 1, by rw [hra], by rw [HWI.out], ⟨by have := HI.out; omega⟩, ⟨by rw [hra]; exact HB4.out.set 3 _ _ rfl⟩, HFS⟩
      · have hob : (q.f1 != ow) = true := bne_iff_ne.2 ho
        have HO := Aside0.mk ho
        clear ho
        go_wp2
        go_roundg d
        case measure => have := HI.out; omega
        case rel => exact ⟨a, i + 1, rfl, by rw [HWI.out], ⟨by have := HI.out; omega⟩, HS, ⟨by rw [HFS.out, raS, if_neg HO.out]⟩⟩
    · have cb : decide (i < l.length) = false := decide_eq_false ci
      have hii : i = l.length := by have := HI.out; omega
      have hf := HF.out
      rw [hii, List.take_length] at hf
      have HFF := Aside0.mk hf
      have l0 := cI HS.out.r 0 (v := .int .i64 a.x) rfl
      have l1 := cI HS.out.r 1 (v := .int .i64 a.y) rfl
      have l2 := cI HS.out.r 2 (v := .int .i64 a.W) rfl
      have l3 := cI HS.out.r 3 (v := .int .i64 a.H) rfl
      have s0 := cI HS.out.res 0 (v := .int .i64 0) rfl
      have s1 := cI HS.out.res 1 (v := .int .i64 0) rfl
      have s2 := cI HS.out.res 2 (v := .int .i64 0) rfl
      have s3 := cI HS.out.res 3 (v := .int .i64 0) rfl
      have f0 := bF HS.out.res 0
      have f1 := bF HS.out.res 1
      have f2 := bF HS.out.res 2
      have f3 := bF HS.out.res 3
      clear hii hf HF hg hC hc ci
      go_wp2
      go_region
      all_goals go_wp2
      all_goals refine bodyPost_ret (results_tc (u := 4) (p := 5) rfl _ _ w.heap.size 32 #[.int .i64 a.x, .int .i64 a.y, .int .i64 a.W, .int .i64 a.H] (0, 0) _ rfl (blk_put (blk_put (blk_put (blk_put HS.out.res 0 _ rfl) 1 _ rfl) 2 _ rfl) 3 _ rfl) Try.underlying32 rfl (by kernel_rfl)) rfl ⟨?_, ?_⟩
      all_goals first
        | (rw [HFF.out]; rfl)
        | exact below_drew1 ((((HS.out.bel.setCell (p := ⟨w.heap.size, 0, none⟩) (Nat.le_refl _) _).setCell (p := ⟨w.heap.size, 1, none⟩) (Nat.le_refl _) _).setCell (p := ⟨w.heap.size, 2, none⟩) (Nat.le_refl _) _).setCell (p := ⟨w.heap.size, 3, none⟩) (Nat.le_refl _) _)
end Go.Proofs.Ytpljnkfbcgdafaa.P
