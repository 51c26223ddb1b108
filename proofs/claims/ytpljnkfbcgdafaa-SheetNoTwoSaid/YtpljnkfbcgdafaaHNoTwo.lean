/- No two: what the law SheetNoTwo asks of a sheet's entries. The walk of the law SheetNoTwo. -/
import Derived.Test.YtpljnkfbcgdafaaHJoint
import Derived.Test.YtpljnkfbcgdafaaHAlive
import Derived.Test.YtpljnkfbcgdafaaHOwners
import Derived.Test.YtpljnkfbcgdafaaHAct

namespace Go.Proofs.Ytpljnkfbcgdafaa.P
open Go.RowKit Go.Shelf Go.Proofs.YtpljnkfbcgdafaaW.PrintWords Go.Proofs.YtpljnkfbcgdafaaW.PrintLast Go.Proofs.YtpljnkfbcgdafaaW.PrintMore
set_option linter.unusedVariables false
set_option linter.unusedSimpArgs false

/-- The entries of a sheet: in it, each cell once. -/
structure EsOk (wn hn : Nat) (es : List Ent) : Prop where
  inb : ∀ e ∈ es, 0 ≤ e.1.1 ∧ e.1.1 < wn ∧ 0 ≤ e.1.2 ∧ e.1.2 < hn ∧ 1 ≤ e.2 ∧ e.2 ≤ 1048576
  nd : es.Pairwise (fun a b => a.1 ≠ b.1)
theorem EsOk.len {wn hn : Nat} {es : List Ent} (h : EsOk wn hn es) : es.length ≤ wn * hn :=
  count_rect es h.nd 0 0 wn hn fun e he => by have := h.inb e he; omega
theorem EsOk.big {wn hn : Nat} {es : List Ent} (h : EsOk wn hn es) (hw : wn ≤ 60) (hh : hn ≤ 60) : es.length ≤ 3600 := by
  have h1 := h.len
  have h2 : wn * hn ≤ 60 * 60 := Nat.mul_le_mul hw hh
  omega
theorem Jn.es {B : Nat} {w : World} {p mb g : Nat} {wn hn : Nat} {n : Nat} {l : List S59} (hs : Sd (wn : Int) (hn : Int)) (h : Jn B w p mb g wn hn n l) : EsOk wn hn (cellsL l) := ⟨fun e he => cellsL_in hs h.ok he, h.nd⟩
theorem Area2.calls (p mb : Nat) (wn hn : Nat) (es : List Ent) (ow : Int) (w : World) (h : Sh w p mb wn hn es) (hw : wn ≤ 60) (hh : hn ≤ 60) (he : EsOk wn hn es) (ho : ow ∈ valsE es) :
    Calls Try.prog 11 #[.pointer (some ⟨p, 0, none⟩), .int .i64 ow] w fun e w' => ∃ (n : Nat) (x y qw qh : Int), e = .returned (.tuple #[.int .i64 (n : Int), .agg #[.int .i64 x, .int .i64 y, .int .i64 qw, .int .i64 qh]]) ∧ (n = cntE ow es ∧ 1 ≤ n ∧ wrap64 (qw * qh) = qw * qh ∧ (n : Int) ≤ qw * qh) ∧ Below w.heap.size w w' := by
  obtain ⟨e0, m0, v0⟩ := List.mem_map.1 ho
  have hb0 := he.inb e0 m0
  have hlen := he.big hw hh
  refine (Area.calls p mb wn hn es ow w h (by omega) (fun e hm => by have := he.inb e hm; omega) (by omega)).mono ?_
  rintro e w' ⟨done, hp, rfl, hb⟩
  rw [ar_perm ow hp]
  have ch := ar_char ow es ⟨0, wn, hn, 0, 0⟩
  generalize es.foldl (arS ow) ⟨0, wn, hn, 0, 0⟩ = a at ch
  have h1 := ch.all e0 m0 v0
  have hn1 := ch.n
  have hlx := ch.lx
  have hly := ch.ly
  simp only [] at hn1 hlx hly
  have hpos : 1 ≤ cntE ow es := by
    unfold cntE
    exact List.length_pos_of_mem (List.mem_filter.2 ⟨m0, by simpa using v0⟩)
  have g1 : 0 ≤ a.lx := by
    rcases ch.mlx with h2 | ⟨e, hm, _, h2⟩
    · rw [h2]; simp only []; omega
    · have := he.inb e hm; omega
  have g2 : 0 ≤ a.ly := by
    rcases ch.mly with h2 | ⟨e, hm, _, h2⟩
    · rw [h2]; simp only []; omega
    · have := he.inb e hm; omega
  have g3 : a.hx ≤ wn := by
    rcases ch.mhx with h2 | ⟨e, hm, _, h2⟩
    · rw [h2]; simp only []; omega
    · have := he.inb e hm; omega
  have g4 : a.hy ≤ hn := by
    rcases ch.mhy with h2 | ⟨e, hm, _, h2⟩
    · rw [h2]; simp only []; omega
    · have := he.inb e hm; omega
  obtain ⟨qw, hqw⟩ : ∃ k : Nat, a.hx - a.lx = (k : Int) := ⟨(a.hx - a.lx).toNat, by omega⟩
  obtain ⟨qh, hqh⟩ : ∃ k : Nat, a.hy - a.ly = (k : Int) := ⟨(a.hy - a.ly).toNat, by omega⟩
  have hc : cntE ow es ≤ qw * qh := by
    unfold cntE
    refine count_rect _ (he.nd.sublist (List.filter_sublist ..)) a.lx a.ly qw qh fun e hm => ?_
    obtain ⟨hm, hv⟩ := List.mem_filter.1 hm
    have := ch.all e hm (by simpa using hv)
    omega
  have hm2 : qw * qh ≤ 60 * 60 := Nat.mul_le_mul (by omega) (by omega)
  have e1 : a.n ≠ 0 := by omega
  have e2 : a.n = (cntE ow es : Int) := by omega
  have e3 : ((qw : Int) * (qh : Int)) = ((qw * qh : Nat) : Int) := (Int.natCast_mul _ _).symm
  refine ⟨cntE ow es, a.lx, a.ly, qw, qh, ?_, ⟨rfl, hpos, ?_, ?_⟩, hb⟩
  · unfold arR
    rw [if_neg e1, e2, hqw, hqh, wr_id (by omega), wr_id (by omega)]
  · rw [e3]; exact wr_id (by omega)
  · rw [e3]; omega
theorem rd_get (l : List Int) (i : Nat) (h : i < l.length) : rd l (i : Int) = l[i] := by
  unfold rd
  rw [Int.toNat_natCast, List.getD_eq_getElem?_getD, List.getElem?_eq_getElem h]; rfl
theorem rd_mem (l : List Int) (i : Nat) (h : i < l.length) : rd l (i : Int) ∈ l := by
  rw [rd_get l i h]; exact List.getElem_mem h
theorem rd_asc {l : List Int} (hl : l.Pairwise (fun a b => a < b)) (i : Nat) (h : i + 1 < l.length) : rd l (i : Int) < rd l ((i + 1 : Nat) : Int) := by
  rw [rd_get l i (by omega), rd_get l (i + 1) h]
  exact (List.pairwise_iff_getElem.1 hl) i (i + 1) (by omega) h (by omega)
theorem sumC_rd (es : List Ent) (l : List Int) (i : Nat) (h : i < l.length) : sumC es (l.take (i + 1)) = sumC es (l.take i) + cntE (rd l (i : Int)) es := by
  rw [sumC_snoc es l i h, rd_get l i h]
theorem cnt_pos {a : Int} {es : List Ent} (h : a ∈ valsE es) : 1 ≤ cntE a es := by
  obtain ⟨e, m, v⟩ := List.mem_map.1 h
  unfold cntE
  exact List.length_pos_of_mem (List.mem_filter.2 ⟨m, by simpa using v⟩)
theorem own_len (es : List Ent) : ∀ lo : List Int, (∀ a ∈ lo, a ∈ valsE es) → lo.length ≤ sumC es lo
  | [], _ => Nat.zero_le _
  | a :: r, h => by
    have h1 := own_len es r fun b hb => h b (List.mem_cons_of_mem _ hb)
    have h2 := cnt_pos (h a (List.mem_cons_self ..))
    have h3 : sumC es (a :: r) = cntE a es + sumC es r := by simp [sumC]
    rw [h3, List.length_cons]
    omega
theorem and31 (n : Int) : Go.bits .and .i64 n 31 = n % 32 := by
  have h7 : (BitVec.ofInt 64 31).toNat = 2 ^ 5 - 1 := by decide
  have key : (BitVec.ofInt 64 n &&& BitVec.ofInt 64 31).toNat = (n % ((2 ^ 64 : Nat) : Int)).toNat % 2 ^ 5 := by
    rw [BitVec.toNat_and, BitVec.toNat_ofInt, h7, Nat.and_two_pow_sub_one_eq_mod]
  show IntKind.i64.wrap ((BitVec.ofInt 64 n &&& BitVec.ofInt 64 31).toNat : Nat) = n % 32
  rw [key, IntKind.wrap_i64]
  omega
/-- Are the first k cells of a rect free? -/
def freeC (es : List Ent) (X Y : Int) (rh k : Nat) : Bool := (upC X Y rh k).all fun c => valE es c.1.1 c.1.2 == 0
theorem freeC_zero (es : List Ent) (X Y : Int) (rh : Nat) : freeC es X Y rh 0 = true := rfl
theorem freeC_step {X Y : Int} {rw_ rh : Nat} (h : 0 ≤ X ∧ 0 ≤ Y ∧ X + rw_ ≤ 100 ∧ Y + rh ≤ 100) (es : List Ent) (i j : Nat) (hi : i < rw_) (hj : j < rh) : freeC es X Y rh (i * rh + j + 1) = (freeC es X Y rh (i * rh + j) && (valE es (X + i) (Y + j) == 0)) := by
  unfold freeC
  rw [upC_succ, List.all_append, List.all_cons, List.all_nil, Bool.and_true, cellAt_ij X Y rh i j hj (by omega)]
theorem freeC_iff (es : List Ent) (X Y : Int) (rh k : Nat) : freeC es X Y rh k = true ↔ ∀ c ∈ upC X Y rh k, valE es c.1.1 c.1.2 = 0 := by
  unfold freeC
  rw [List.all_eq_true]
  exact ⟨fun h c hc => by simpa using h c hc, fun h c hc => by simpa using h c hc⟩
/-- May owner 5 take it? -/
def freeR (wn hn : Nat) (es : List Ent) (X Y Rw Rh : Int) : Bool := (liesB X Rw wn && liesB Y Rh hn) && freeC es X Y Rh.toNat (Rw.toNat * Rh.toNat)
theorem Take5.calls (p mb : Nat) (wn hn : Nat) (es : List Ent) (X Y Rw Rh : Int) (b : Bool) (w : World) (h : Sh w p mb wn hn es) (hw : wn ≤ 60) (hh : hn ≤ 60) (he : EsOk wn hn es) (hf : freeR wn hn es X Y Rw Rh = b) :
    Calls Try.prog 20 #[.pointer (some ⟨p, 0, none⟩), .agg #[.int .i64 X, .int .i64 Y, .int .i64 Rw, .int .i64 Rh], .int .i64 5] w fun e w' => ∃ r : Int, e = .returned (.int .i64 r) ∧ (r == 0) = b ∧ w.grownBy w' (some mb) := by
  have hlen := he.big hw hh
  subst hf
  unfold freeR
  by_cases hy : liesB X Rw wn = true ∧ liesB Y Rh hn = true ∧ (1 : Int) ≤ 5 ∧ (5 : Int) ≤ 1048576
  · obtain ⟨h1, h2, h3⟩ := hy
    have k1 := lies_iff.1 h1
    have k2 := lies_iff.1 h2
    obtain ⟨rw_, rfl⟩ : ∃ k : Nat, Rw = (k : Int) := ⟨Rw.toNat, by omega⟩
    obtain ⟨rh, rfl⟩ : ∃ k : Nat, Rh = (k : Int) := ⟨Rh.toNat, by omega⟩
    rw [h1, h2]
    simp only [Int.toNat_natCast, Bool.and_true, Bool.true_and]
    refine (Take_ok.calls p mb wn hn es X Y rw_ rh 5 w h (by omega) (by omega) h1 h2 h3 (by omega)).mono fun e w' hq => ?_
    rcases hq with ⟨hc, rfl, _, hg⟩ | ⟨⟨c, hm, hx⟩, rfl, _, hg⟩
    · refine ⟨0, rfl, ?_, hg⟩
      rw [(freeC_iff ..).2 hc]; rfl
    · refine ⟨201, rfl, ?_, hg⟩
      have : freeC es X Y rh (rw_ * rh) = false := Bool.eq_false_iff.2 fun h9 => hx ((freeC_iff ..).1 h9 c hm)
      rw [this]; rfl
  · refine (Take_no.calls p mb wn hn es X Y Rw Rh 5 w h (by omega) (by omega) hy).mono fun e w' hq => ?_
    obtain ⟨rfl, _, hg⟩ := hq
    refine ⟨201, rfl, ?_, hg⟩
    have : (liesB X Rw wn && liesB Y Rh hn) = false := Bool.eq_false_iff.2 fun h9 => hy ⟨((Bool.and_eq_true ..).mp h9).1, ((Bool.and_eq_true ..).mp h9).2, by omega, by omega⟩
    rw [this]; rfl
theorem freeR_no {wn hn : Nat} {es : List Ent} {X Y Rw Rh : Int} (h : ¬ (0 ≤ X ∧ 0 ≤ Y ∧ 1 ≤ Rw ∧ 1 ≤ Rh ∧ X < wn ∧ Y < hn ∧ Rw ≤ wn - X ∧ Rh ≤ hn - Y)) : freeR wn hn es X Y Rw Rh = false := by
  unfold freeR
  have : (liesB X Rw wn && liesB Y Rh hn) = false := Bool.eq_false_iff.2 fun h9 => h (by
    have h1 := lies_iff.1 ((Bool.and_eq_true ..).mp h9).1
    have h2 := lies_iff.1 ((Bool.and_eq_true ..).mp h9).2
    omega)
  rw [this]; rfl
theorem freeR_in {wn hn : Nat} {es : List Ent} {X Y : Int} {rw_ rh : Nat} (h : 0 ≤ X ∧ 0 ≤ Y ∧ 1 ≤ rw_ ∧ 1 ≤ rh ∧ X + rw_ ≤ wn ∧ Y + rh ≤ hn) : freeR wn hn es X Y rw_ rh = freeC es X Y rh (rw_ * rh) := by
  unfold freeR
  rw [lies_iff.2 (by omega), lies_iff.2 (by omega)]
  simp only [Int.toNat_natCast, Bool.and_true, Bool.true_and]
end Go.Proofs.Ytpljnkfbcgdafaa.P

namespace Go.Proofs.Ytpljnkfbcgdafaa.P
open Go.RowKit Go.Shelf Go.Proofs.YtpljnkfbcgdafaaW.PrintWords Go.Proofs.YtpljnkfbcgdafaaW.PrintLast Go.Proofs.YtpljnkfbcgdafaaW.PrintMore
set_option linter.unusedVariables false
set_option linter.unusedSimpArgs false

set_option maxHeartbeats 16000000 in
set_option maxRecDepth 100000 in
theorem frisketlaw20_SheetNoTwo.calls (o0 o1 : Int) (A0 : Option Addr) (c0 : Nat) (l0 : List S34) (X Y Rw Rh : Int) (w : World) (hC : Kd.C k34 w A0 l0.length l0) (hl : l0.length * 48 ≤ 140737488351232) :
    Calls Try.prog 4 #[.agg #[.int .i64 o0, .int .i64 o1], .slice A0 l0.length c0, .agg #[.int .i64 X, .int .i64 Y, .int .i64 Rw, .int .i64 Rh]] w fun e w' => e = .returned (.bool true) ∧ Below w.heap.size w w' := by
  have hu32 := Try.underlying32
  have hu34 := Try.underlying34
  have hu44 := Try.underlying44
  have HL := Aside0.mk hl
  obtain ⟨wn, hwn⟩ : ∃ wn : Nat, (wn : Int) = 1 + o0 % 32 := ⟨(1 + o0 % 32).toNat, by omega⟩
  obtain ⟨hn, hhn⟩ : ∃ hn : Nat, (hn : Int) = 1 + o1 % 32 := ⟨(1 + o1 % 32).toNat, by omega⟩
  have HWH := Aside0.mk (show 1 ≤ wn ∧ wn ≤ 32 ∧ 1 ≤ hn ∧ hn ≤ 32 by omega)
  have HSS := Aside0.mk (show Sd (wn : Int) (hn : Int) by unfold Sd; omega)
  have a0 : wrap64 (1 + Go.bits .and .i64 o0 31) = (wn : Int) := by rw [and31, ← hwn]; have := HWH.out; unfold wrap64; omega
  have a1 : wrap64 (1 + Go.bits .and .i64 o1 31) = (hn : Int) := by rw [and31, ← hhn]; have := HWH.out; unfold wrap64; omega
  have hv := below_alloc (below_alloc (Below.refl w.heap.size w) (.cells #[.int .i64 o0, .int .i64 o1] 44)) (.cells #[.int .i64 X, .int .i64 Y, .int .i64 Rw, .int .i64 Rh] 32)
  have b1 := blk_alloc (blk_new w (.cells #[.int .i64 o0, .int .i64 o1] 44)) (.cells #[.int .i64 X, .int .i64 Y, .int .i64 Rw, .int .i64 Rh] 32)
  have b2 := blk_new (w.alloc (.cells #[.int .i64 o0, .int .i64 o1] 44)) (.cells #[.int .i64 X, .int .i64 Y, .int .i64 Rw, .int .i64 Rh] 32)
  rw [World.size_alloc] at b2
  have HV := Aside0.mk hv
  have HB1 := Aside0.mk b1
  have HB2 := Aside0.mk b2
  have HC := Aside0.mk (Kd.C_below hC hv)
  have q0 := cI b1 0 (v := .int .i64 o0) rfl
  have q1 := cI b1 1 (v := .int .i64 o1) rfl
  clear hwn hhn hl hC hv b1 b2
  go_enter Try.func4, Try.ntmps4
  go_upto_region 1 with (fail)
  obtain ⟨V, hV⟩ : ∃ V, (w.alloc (.cells #[.int .i64 o0, .int .i64 o1] 44)).alloc (.cells #[.int .i64 X, .int .i64 Y, .int .i64 Rw, .int .i64 Rh] 32) = V := ⟨_, rfl⟩
  rw [hV] at HV HB1 HB2 HC q0 q1 ⊢
  clear hV
  have HSD := Aside0.mk (show sideB (wn : Int) = true ∧ sideB (hn : Int) = true by have := HWH.out; unfold sideB; simp; omega)
  go_upto_region 3 with (fail)
  rw [a0, a1]
  clear a0 a1 q0 q1
  go_wp2_with (first
    | (go_at_call 7; refine (New.calls (wn : Int) (hn : Int) V HSD.out.1 HSD.out.2).mono ?_; rintro e w2 ⟨p, mb, rfl, hs, hp, hmb, hb⟩; have HS := Aside0.mk hs; have HPM := Aside0.mk (And.intro hp hmb); have HBN := Aside0.mk hb; clear hs hp hmb hb)
    | (go_at_call 8; refine (RNew.calls (wn : Int) (hn : Int) w2 (by have := HWH.out; omega) (by have := HWH.out; omega)).mono ?_; rintro e w3 ⟨g, rfl, hr, hg, hb⟩; have HR := Aside0.mk hr; have HG := Aside0.mk hg; have HBR := Aside0.mk hb; clear hr hg hb))
  have HT := Aside0.mk (show Jn V.heap.size w3 p mb g (wn : Int) (hn : Int) 0 [] from ⟨HS.out.below HBR.out, HR.out, OkL.nil, Nat.le_refl _, ⟨HPM.out.1, HPM.out.2, Nat.le_trans HBN.out.size HG.out, Nat.le_trans HBN.out.size HBR.out.size⟩⟩)
  have HBL := Aside0.mk (HBN.out.trans (HBR.out.mono HBN.out.size))
  clear HS HPM HBN HR HG HBR HSD
  go_loopg [13] (min l0.length 60) (fun kq v13 wr => ∃ (i : Nat) (l : List S59), v13 = .int .i64 (i : Int) ∧ Aside0 (i + kq = min l0.length 60) ∧ Aside0 (Jn V.heap.size wr p mb g (wn : Int) (hn : Int) i l) ∧ Aside0 (Below V.heap.size V wr))
  case atStart => exact ⟨0, [], rfl, ⟨by omega⟩, HT, HBL⟩
  case round =>
    clear HT HBL
    obtain ⟨i, l, rfl, HI, HT, HBL⟩ := hrel
    by_cases ci : i < l0.length
    · have cb : decide (i < l0.length) = true := decide_eq_true ci
      have cb3 : decide ((i : Int) < (l0.length : Int)) = true := decide_eq_true (by omega)
      have cl : (i < l0.length) = True := eq_true ci
      by_cases c6 : i < 60
      · have d6 : decide ((i : Int) < 60) = true := decide_eq_true (by omega)
        have e6 : decide (i < 60) = true := decide_eq_true c6
        have f6 : (i < 60) = True := eq_true c6
        obtain ⟨d, rfl⟩ : ∃ d, gk = d + 1 := ⟨gk - 1, by have := HI.out; omega⟩
        obtain ⟨ad, ea, x0, x1, x2, x3, x4, x5⟩ := at_T34 (Kd.C_below HC.out HBL.out) (i : Int) (by omega) (by omega)
        subst ea
        simp only [Int.toNat_natCast] at x0 x1 x2 x3 x4 x5
        obtain ⟨q, hq⟩ : ∃ q, rd_T34 l0 (i : Int) = q := ⟨_, rfl⟩
        have HWI := Aside0.mk (show wrap64 ((i : Int) + 1) = ((i + 1 : Nat) : Int) by unfold wrap64; omega)
        have H60 := Aside0.mk (show i ≤ 60 by omega)
        rw [hq] at x0 x1 x2 x3 x4 x5
        clear hq ci c6
        go_wp2_with (go_at_call 10; refine (doJ.calls V.heap.size p mb g (wn : Int) (hn : Int) i l q.f0 q.f1.f0 q.f1.f1 q.f1.f2 q.f1.f3 q.f2 wr HSS.out HT.out H60.out).mono ?_; rintro e w4 ⟨l', rfl, ht, hb⟩; have HT4 := Aside0.mk ht; have HB4 := Aside0.mk (HBL.out.trans hb); clear ht hb)
        go_roundg d
        case measure => have := HI.out; omega
        case rel => exact ⟨i + 1, l', by rw [HWI.out], ⟨by have := HI.out; omega⟩, HT4, HB4⟩
      · have d6 : decide ((i : Int) < 60) = false := decide_eq_false (by omega)
        have e6 : decide (i < 60) = false := decide_eq_false c6
        have f6 : (i < 60) = False := eq_false c6
        have H60 := Aside0.mk (show i ≤ 60 by have := HI.out; omega)
        have HBX := Aside0.mk HT.out.b
        obtain ⟨es, hs, hok⟩ : ∃ es, Sh wr p mb (wn : Int) (hn : Int) es ∧ EsOk wn hn es := ⟨cellsL l, HT.out.s, HT.out.es HSS.out⟩
        have HS := Aside0.mk hs
        have HOK := Aside0.mk hok
        have HLE := Aside0.mk (show es.length ≤ wn * hn ∧ es.length ≤ 3600 from ⟨hok.len, hok.big (by have := HWH.out; omega) (by have := HWH.out; omega)⟩)
        have HF0 := Aside0.mk (show wrap64 (wrap64 ((wn : Int) * (hn : Int)) - (es.length : Int)) = ((wn * hn - es.length : Nat) : Int) by
          have h1 := HLE.out
          have h2 : wn * hn ≤ 32 * 32 := Nat.mul_le_mul (by have := HWH.out; omega) (by have := HWH.out; omega)
          rw [← Int.natCast_mul, wr_id (x := ((wn * hn : Nat) : Int)) (by omega), wr_id (by omega)]
          omega)
        have HMM := Aside0.mk (show wn * hn ≤ 32 * 32 by have := HWH.out; exact Nat.mul_le_mul (by omega) (by omega))
        clear HI HT ci c6 hs hok
        go_wp2_with (first
          | (go_at_call 13; refine (Free.calls p mb (wn : Int) (hn : Int) es wr HS.out).mono ?_; rintro e w2 ⟨rfl, ⟨qd, rfl⟩⟩)
          | (go_at_call 16; refine (Owners.calls p mb (wn : Int) (hn : Int) es _ (HS.out.drewN qd) (by have := HLE.out; omega)).mono ?_; rintro e w5 ⟨A5, c5, lo, rfl, hk5, hc5, ha5, hm5, hb5⟩; have HK5 := Aside0.mk hk5; have HC5 := Aside0.mk hc5; have HA5 := Aside0.mk ha5; have HM5 := Aside0.mk hm5; have HB5 := Aside0.mk hb5; clear hk5 hc5 ha5 hm5 hb5))
        rw [HF0.out]
        have HS5 := Aside0.mk ((HS.out.drewN qd).below HB5.out)
        have HB6 := Aside0.mk (show Below V.heap.size V w5 from (pw_below_drewN HBL.out qd).trans (HB5.out.mono (pw_below_drewN HBL.out qd).size))
        have HSM := Aside0.mk (sumC_all lo es HA5.out HM5.out)
        clear HS HF0 HBL HB5
        go_loopg [14, 16] lo.length (fun kq v14 v16 wr => ∃ (i m : Nat), v14 = .int .i64 (m : Int) ∧ v16 = .int .i64 (i : Int) ∧ Aside0 (i + kq = lo.length) ∧ Aside0 (m = wn * hn - es.length + sumC es (lo.take i)) ∧ Aside0 (Below w5.heap.size w5 wr))
        case atStart => exact ⟨0, _, rfl, rfl, ⟨by omega⟩, ⟨by simp [sumC]⟩, ⟨Below.refl _ _⟩⟩
        case round =>
          obtain ⟨i, m, rfl, rfl, HI, HM, HB⟩ := hrel
          by_cases ci : i < lo.length
          · have cb : decide (i < lo.length) = true := decide_eq_true ci
            have cb3 : decide ((i : Int) < (lo.length : Int)) = true := decide_eq_true (by omega)
            have cl : (i < lo.length) = True := eq_true ci
            have HCI := Aside0.mk ci
            obtain ⟨d, rfl⟩ : ∃ d, gk = d + 1 := ⟨gk - 1, by have := HI.out; omega⟩
            obtain ⟨ad, ea, x0⟩ := Kd.at_int (Kd.C_below HK5.out HB.out) (i : Int) (by omega) (by omega)
            subst ea
            simp only [Int.toNat_natCast] at x0
            have HOW := Aside0.mk ((HM5.out _).1 (rd_mem lo i ci))
            have HSU := Aside0.mk (sumC_rd es lo i ci)
            have HLN := Aside0.mk (show i < 3600 by have := HLE.out; have := HSM.out; have := own_len es lo (fun a ha => (HM5.out a).1 ha); omega)
            have HWI := Aside0.mk (show wrap64 ((i : Int) + 1) = ((i + 1 : Nat) : Int) by have := HLN.out; unfold wrap64; omega)
            go_upto_region 17 with (go_at_call 11; refine (Area2.calls p mb wn hn es (rd lo (i : Int)) wr (HS5.out.below HB.out) (by have := HWH.out; omega) (by have := HWH.out; omega) HOK.out HOW.out).mono ?_; rintro e w6 ⟨n, qx, qy, qw, qh, rfl, hn6, hb6⟩; have HN6 := Aside0.mk hn6; have HB7 := Aside0.mk hb6; clear hn6 hb6 ci)
            obtain ⟨V7, hV7⟩ : ∃ V7, w6.alloc (.cells #[.int .i64 qx, .int .i64 qy, .int .i64 qw, .int .i64 qh] 32) = V7 := ⟨_, rfl⟩
            have hq := blk_new w6 (.cells #[.int .i64 qx, .int .i64 qy, .int .i64 qw, .int .i64 qh] 32)
            have hb8 : Below w5.heap.size w5 (w6.alloc (.cells #[.int .i64 qx, .int .i64 qy, .int .i64 qw, .int .i64 qh] 32)) := (HB.out.trans (HB7.out.mono HB.out.size)).alloc (Nat.le_trans HB.out.size HB7.out.size) _
            rw [hV7] at hq hb8 ⊢
            clear hV7 x0
            have HB8 := Aside0.mk hb8
            have y2 := cI hq 2 (v := .int .i64 qw) rfl
            have y3 := cI hq 3 (v := .int .i64 qh) rfl
            obtain ⟨ad2, e2, y0⟩ := Kd.at_int (Kd.C_below HK5.out hb8) (i : Int) (by omega) (by have := HCI.out; omega)
            cases e2
            simp only [Int.toNat_natCast] at y0
            have n1 : decide ((n : Int) < 1) = false := decide_eq_false (by have := HN6.out; omega)
            have n2 : decide (n < 1) = false := decide_eq_false (by have := HN6.out; omega)
            have n3 : (n < 1) = False := eq_false (by have := HN6.out; omega)
            have m1 : wrap64 (qw * qh) = qw * qh := HN6.out.2.2.1
            have m2 : IntKind.i64.wrap (qw * qh) = qw * qh := by have := HN6.out.2.2.1; rw [IntKind.wrap_i64]; unfold wrap64 at this; omega
            have HWM := Aside0.mk (show wrap64 ((m : Int) + (n : Int)) = ((m + n : Nat) : Int) by
              have h1 := HM.out; have h2 := HSU.out; have h3 := HN6.out.1; have h4 := sumC_part es lo (i + 1); have h5 := HSM.out; have h6 := HLE.out; have h7 := HMM.out
              rw [wr_id (by omega)]; omega)
            have m3 : decide (qw * qh < (n : Int)) = false := decide_eq_false (by have := HN6.out; omega)
            clear hq hb8
            by_cases hi0 : i = 0
            · have d0 : decide (0 < i) = false := decide_eq_false (by omega)
              have d1 : decide (0 < (i : Int)) = false := decide_eq_false (by omega)
              have d2 : (0 < i) = False := eq_false (by omega)
              clear hi0
              go_quiet (fail)
              go_wp2
              go_roundg d
              case measure => have := HI.out; omega
              case rel => exact ⟨i + 1, m + n, by rw [HWM.out], by rw [HWI.out], ⟨by have := HI.out; omega⟩, ⟨by rw [HSU.out, HM.out, HN6.out.1]; omega⟩, ⟨pw_below_drewN HB8.out _⟩⟩
            · obtain ⟨k, hk⟩ : ∃ k, i = k + 1 := ⟨i - 1, by omega⟩
              have d0 : decide (0 < i) = true := decide_eq_true (by omega)
              have d1 : decide (0 < (i : Int)) = true := decide_eq_true (by omega)
              have d2 : (0 < i) = True := eq_true (by omega)
              have w1 : wrap64 ((i : Int) - 1) = (k : Int) := by have := HWI.out; have := HLN.out; unfold wrap64; omega
              have w1' : IntKind.i64.wrap ((i : Int) - 1) = (k : Int) := by rw [IntKind.wrap_i64]; have := HLN.out; omega
              have ck : (k < lo.length) = True := eq_true (by have := HCI.out; omega)
              obtain ⟨ad3, e3, y1⟩ := Kd.at_int (Kd.C_below HK5.out HB8.out) (k : Int) (by omega) (by have := HCI.out; omega)
              cases e3
              simp only [Int.toNat_natCast] at y1
              have as1 : decide (rd lo (i : Int) ≤ rd lo (k : Int)) = false := decide_eq_false (by have := rd_asc HA5.out k (by have := HCI.out; omega); rw [← hk] at this; omega)
              clear hi0 hk
              go_quiet (fail)
              go_wp2
              go_roundg d
              case measure => have := HI.out; omega
              case rel => exact ⟨i + 1, m + n, by rw [HWM.out], by rw [HWI.out], ⟨by have := HI.out; omega⟩, ⟨by rw [HSU.out, HM.out, HN6.out.1]; omega⟩, ⟨pw_below_drewN HB8.out _⟩⟩
          · have cb : decide (i < lo.length) = false := decide_eq_false ci
            have cb3 : decide ((i : Int) < (lo.length : Int)) = false := decide_eq_false (by omega)
            have cl : (i < lo.length) = False := eq_false ci
            have hii : i = lo.length := by have := HI.out; omega
            have hmt : m = wn * hn := by
              have h1 := HM.out
              rw [hii, List.take_length, HSM.out] at h1
              have := HLE.out
              omega
            have mm : ((m : Int) == wrap64 ((wn : Int) * (hn : Int))) = true := by
              rw [hmt, ← Int.natCast_mul, wr_id (by have := HMM.out; omega)]
              exact beq_self_eq_true _
            have HB9 := Aside0.mk (HB6.out.trans (HB.out.mono HB6.out.size))
            have HS9 := Aside0.mk (HS5.out.below HB.out)
            have hbx := blk_below HB2.out HB9.out
            have r0 := cI hbx 0 (v := .int .i64 X) rfl
            have r1 := cI hbx 1 (v := .int .i64 Y) rfl
            have r2 := cI hbx 2 (v := .int .i64 Rw) rfl
            have r3 := cI hbx 3 (v := .int .i64 Rh) rfl
            clear hii hmt hbx HI HM HB ci HB6 HS5 HK5 HA5 HM5 HC5 HSM
            by_cases k0 : 0 ≤ X
            · have i0 : decide (0 ≤ X) = true := decide_eq_true k0
              by_cases k1 : 0 ≤ Y
              · have i1 : decide (0 ≤ Y) = true := decide_eq_true k1
                by_cases k2 : 1 ≤ Rw
                · have i2 : decide (1 ≤ Rw) = true := decide_eq_true k2
                  by_cases k3 : 1 ≤ Rh
                  · have i3 : decide (1 ≤ Rh) = true := decide_eq_true k3
                    by_cases k4 : X < (wn : Int)
                    · have i4 : decide (X < (wn : Int)) = true := decide_eq_true k4
                      have s1 : wrap64 ((wn : Int) - X) = (wn : Int) - X := wr_id (by have := HWH.out; omega)
                      by_cases k5 : Y < (hn : Int)
                      · have i5 : decide (Y < (hn : Int)) = true := decide_eq_true k5
                        have s2 : wrap64 ((hn : Int) - Y) = (hn : Int) - Y := wr_id (by have := HWH.out; omega)
                        by_cases k6 : Rw ≤ (wn : Int) - X
                        · have i6 : decide (Rw ≤ (wn : Int) - X) = true := decide_eq_true k6
                          by_cases k7 : Rh ≤ (hn : Int) - Y
                          · have i7 : decide (Rh ≤ (hn : Int) - Y) = true := decide_eq_true k7
                            have HIN := Aside0.mk (show 0 ≤ X ∧ 0 ≤ Y ∧ 1 ≤ Rw ∧ 1 ≤ Rh ∧ X < (wn : Int) ∧ Y < (hn : Int) ∧ Rw ≤ (wn : Int) - X ∧ Rh ≤ (hn : Int) - Y from ⟨k0, k1, k2, k3, k4, k5, k6, k7⟩)
                            clear k0 k1 k4 k5 k6 k7
                            obtain ⟨rw_, rfl⟩ : ∃ k : Nat, Rw = (k : Int) := ⟨Rw.toNat, by omega⟩
                            obtain ⟨rh, rfl⟩ : ∃ k : Nat, Rh = (k : Int) := ⟨Rh.toNat, by omega⟩
                            clear k2 k3
                            have HU1 := Aside0.mk (show wrap64 (X + (rw_ : Int)) = X + (rw_ : Int) from wr_id (by have := HWH.out; have := HIN.out; omega))
                            have HV1 := Aside0.mk (show wrap64 (Y + (rh : Int)) = Y + (rh : Int) from wr_id (by have := HWH.out; have := HIN.out; omega))
                            go_upto_region 21 with (fail)
                            clear s1 s2
                            go_wp2
                            go_loopg [20, 21] rw_ (fun kq v20 v21 ws => ∃ (i : Nat), v20 = .bool (freeC es X Y rh (i * rh)) ∧ v21 = .int .i64 (X + (i : Int)) ∧ ws = wr ∧ Aside0 (i + kq = rw_))
                            case atStart => exact ⟨0, by rw [Nat.zero_mul]; rfl, by simp, rfl, ⟨by omega⟩⟩
                            case round =>
                              obtain ⟨i, rfl, rfl, rfl, HI⟩ := hrel
                              by_cases ci : i < rw_
                              · have u2 : decide (X + (i : Int) < X + (rw_ : Int)) = true := decide_eq_true (by omega)
                                have u4 : decide (i < rw_) = true := decide_eq_true ci
                                have u5 : (i < rw_) = True := eq_true ci
                                have u6 : decide ((i : Int) < (rw_ : Int)) = true := decide_eq_true (by omega)
                                have u3 : decide (X + (i : Int) < wrap64 (X + (rw_ : Int))) = true := by rw [HU1.out]; exact u2
                                have HCI := Aside0.mk ci
                                have HWI := Aside0.mk (show wrap64 (X + (i : Int) + 1) = X + ((i + 1 : Nat) : Int) by rw [wr_id (by have := HWH.out; have := HIN.out; omega)]; omega)
                                obtain ⟨d, rfl⟩ : ∃ d, gk = d + 1 := ⟨gk - 1, by have := HI.out; omega⟩
                                clear ci
                                go_wp2
                                go_loopg [20, 22] rh (fun kq v20 v22 ws => ∃ (j : Nat), v20 = .bool (freeC es X Y rh (i * rh + j)) ∧ v22 = .int .i64 (Y + (j : Int)) ∧ ws = wr ∧ Aside0 (j + kq = rh))
                                case atStart => exact ⟨0, rfl, by simp, rfl, ⟨by omega⟩⟩
                                case round =>
                                  obtain ⟨j, rfl, rfl, rfl, HJ⟩ := hrel
                                  by_cases cj : j < rh
                                  · have v2 : decide (Y + (j : Int) < Y + (rh : Int)) = true := decide_eq_true (by omega)
                                    have v4 : decide (j < rh) = true := decide_eq_true cj
                                    have v5 : (j < rh) = True := eq_true cj
                                    have v6 : decide ((j : Int) < (rh : Int)) = true := decide_eq_true (by omega)
                                    have v3 : decide (Y + (j : Int) < wrap64 (Y + (rh : Int))) = true := by rw [HV1.out]; exact v2
                                    have HST := Aside0.mk (freeC_step (X := X) (Y := Y) (rw_ := rw_) (rh := rh) (by have := HWH.out; have := HIN.out; omega) es i j HCI.out cj)
                                    have HWJ := Aside0.mk (show wrap64 (Y + (j : Int) + 1) = Y + ((j + 1 : Nat) : Int) by rw [wr_id (by have := HWH.out; have := HIN.out; omega)]; omega)
                                    have HKX := Aside0.mk (show inK (X + (i : Int)) from inK_small (by have := HWH.out; have := HIN.out; have := HCI.out; omega))
                                    have HKY := Aside0.mk (show inK (Y + (j : Int)) from inK_small (by have := HWH.out; have := HIN.out; omega))
                                    obtain ⟨d2, rfl⟩ : ∃ d2, gk = d2 + 1 := ⟨gk - 1, by have := HJ.out; omega⟩
                                    obtain ⟨b, hb⟩ : ∃ b, freeC es X Y rh (i * rh + j) = b := ⟨_, rfl⟩
                                    rw [hb]
                                    have HSB := Aside0.mk hb
                                    clear hb cj
                                    cases b with
                                    | true =>
                                      go_wp2_with (go_at_call 18; refine (At.calls p mb _ _ es (X + (i : Int)) (Y + (j : Int)) wr HS9.out HKX.out HKY.out).mono ?_; rintro e w2 ⟨rfl, rfl⟩)
                                      go_roundg d2
                                      case measure => have := HJ.out; omega
                                      case rel => exact ⟨j + 1, by rw [← Nat.add_assoc, HST.out, HSB.out]; rfl, by rw [HWJ.out], rfl, ⟨by have := HJ.out; omega⟩⟩
                                    | false =>
                                      go_wp2
                                      go_roundg d2
                                      case measure => have := HJ.out; omega
                                      case rel => exact ⟨j + 1, by rw [← Nat.add_assoc, HST.out, HSB.out]; rfl, by rw [HWJ.out], rfl, ⟨by have := HJ.out; omega⟩⟩
                                  · have v2 : decide (Y + (j : Int) < Y + (rh : Int)) = false := decide_eq_false (by omega)
                                    have v4 : decide (j < rh) = false := decide_eq_false cj
                                    have v5 : (j < rh) = False := eq_false cj
                                    have v6 : decide ((j : Int) < (rh : Int)) = false := decide_eq_false (by omega)
                                    have v3 : decide (Y + (j : Int) < wrap64 (Y + (rh : Int))) = false := by rw [HV1.out]; exact v2
                                    have HJJ := Aside0.mk (show i * rh + j = (i + 1) * rh by rw [Nat.succ_mul]; have := HJ.out; omega)
                                    clear cj
                                    go_wp2
                                    go_roundg d
                                    case measure => have := HI.out; omega
                                    case rel => exact ⟨i + 1, by rw [HJJ.out], by rw [HWI.out], rfl, ⟨by have := HI.out; omega⟩⟩
                              · have u2 : decide (X + (i : Int) < X + (rw_ : Int)) = false := decide_eq_false (by omega)
                                have u4 : decide (i < rw_) = false := decide_eq_false ci
                                have u5 : (i < rw_) = False := eq_false ci
                                have u6 : decide ((i : Int) < (rw_ : Int)) = false := decide_eq_false (by omega)
                                have u3 : decide (X + (i : Int) < wrap64 (X + (rw_ : Int))) = false := by rw [HU1.out]; exact u2
                                have hii : i = rw_ := by have := HI.out; omega
                                have hfr := freeR_in (wn := wn) (hn := hn) (es := es) (X := X) (Y := Y) (rw_ := rw_) (rh := rh) (by have := HIN.out; omega)
                                rw [← hii] at hfr
                                obtain ⟨b, hb⟩ : ∃ b, freeC es X Y rh (i * rh) = b := ⟨_, rfl⟩
                                rw [hb]
                                rw [hb, hii] at hfr
                                have HFR := Aside0.mk hfr
                                clear hb hfr hii ci
                                cases b with
                                | true =>
                                  go_wp2_with (first
                                    | (go_at_call 20; refine (Take5.calls p mb wn hn es X Y (rw_ : Int) (rh : Int) true wr HS9.out (by have := HWH.out; omega) (by have := HWH.out; omega) HOK.out HFR.out).mono ?_; rintro e w10 ⟨r, rfl, hr, hg10⟩; have z1 := hr; have HG10 := Aside0.mk hg10; clear hr hg10 r0 r1 r2 r3)
                                    | (go_at_call 9; refine (frisketlaw20_alive.calls true w10 rfl).mono ?_; rintro e w11 ⟨rfl, hb11⟩; have HB11 := Aside0.mk hb11; clear hb11))
                                  go_ret
                                  exact ⟨rfl, by
                                    have t1 := HV.out.trans (HB9.out.mono HV.out.size)
                                    have h1 := HBX.out.2.1
                                    have h2 := HV.out.size
                                    have t2 := t1.trans (below_gr HG10.out (by omega) t1.size)
                                    exact t2.trans (HB11.out.mono t2.size)⟩
                                | false =>
                                  go_wp2_with (first
                                    | (go_at_call 20; refine (Take5.calls p mb wn hn es X Y (rw_ : Int) (rh : Int) false wr HS9.out (by have := HWH.out; omega) (by have := HWH.out; omega) HOK.out HFR.out).mono ?_; rintro e w10 ⟨r, rfl, hr, hg10⟩; have z1 := hr; have HG10 := Aside0.mk hg10; clear hr hg10 r0 r1 r2 r3)
                                    | (go_at_call 9; refine (frisketlaw20_alive.calls true w10 rfl).mono ?_; rintro e w11 ⟨rfl, hb11⟩; have HB11 := Aside0.mk hb11; clear hb11))
                                  go_ret
                                  exact ⟨rfl, by
                                    have t1 := HV.out.trans (HB9.out.mono HV.out.size)
                                    have h1 := HBX.out.2.1
                                    have h2 := HV.out.size
                                    have t2 := t1.trans (below_gr HG10.out (by omega) t1.size)
                                    exact t2.trans (HB11.out.mono t2.size)⟩
                          · have HFR := Aside0.mk (show freeR wn hn es X Y Rw Rh = false from freeR_no (fun h => k7 (by omega)))
                            have i7 : decide (Rh ≤ (hn : Int) - Y) = false := decide_eq_false k7
                            clear k0 k1 k2 k3 k4 k5 k6 k7
                            go_wp2
                            go_loopg [20, 21] 0 (fun kq v20 v21 ws => v20 = .bool false ∧ v21 = .int .i64 X ∧ ws = wr)
                            case atStart => exact ⟨rfl, rfl, rfl⟩
                            case round =>
                              obtain ⟨rfl, rfl, rfl⟩ := hrel
                              go_wp2_with (first
                                | (go_at_call 20; refine (Take5.calls p mb wn hn es X Y Rw Rh false wr HS9.out (by have := HWH.out; omega) (by have := HWH.out; omega) HOK.out HFR.out).mono ?_; rintro e w10 ⟨r, rfl, hr, hg10⟩; have z1 := hr; have HG10 := Aside0.mk hg10; clear hr hg10 r0 r1 r2 r3)
                                | (go_at_call 9; refine (frisketlaw20_alive.calls true w10 rfl).mono ?_; rintro e w11 ⟨rfl, hb11⟩; have HB11 := Aside0.mk hb11; clear hb11))
                              go_ret
                              exact ⟨rfl, by
                                have t1 := HV.out.trans (HB9.out.mono HV.out.size)
                                have h1 := HBX.out.2.1
                                have h2 := HV.out.size
                                have t2 := t1.trans (below_gr HG10.out (by omega) t1.size)
                                exact t2.trans (HB11.out.mono t2.size)⟩
                        · have HFR := Aside0.mk (show freeR wn hn es X Y Rw Rh = false from freeR_no (fun h => k6 (by omega)))
                          have i6 : decide (Rw ≤ (wn : Int) - X) = false := decide_eq_false k6
                          clear k0 k1 k2 k3 k4 k5 k6
                          go_wp2
                          go_loopg [20, 21] 0 (fun kq v20 v21 ws => v20 = .bool false ∧ v21 = .int .i64 X ∧ ws = wr)
                          case atStart => exact ⟨rfl, rfl, rfl⟩
                          case round =>
                            obtain ⟨rfl, rfl, rfl⟩ := hrel
                            go_wp2_with (first
                              | (go_at_call 20; refine (Take5.calls p mb wn hn es X Y Rw Rh false wr HS9.out (by have := HWH.out; omega) (by have := HWH.out; omega) HOK.out HFR.out).mono ?_; rintro e w10 ⟨r, rfl, hr, hg10⟩; have z1 := hr; have HG10 := Aside0.mk hg10; clear hr hg10 r0 r1 r2 r3)
                              | (go_at_call 9; refine (frisketlaw20_alive.calls true w10 rfl).mono ?_; rintro e w11 ⟨rfl, hb11⟩; have HB11 := Aside0.mk hb11; clear hb11))
                            go_ret
                            exact ⟨rfl, by
                              have t1 := HV.out.trans (HB9.out.mono HV.out.size)
                              have h1 := HBX.out.2.1
                              have h2 := HV.out.size
                              have t2 := t1.trans (below_gr HG10.out (by omega) t1.size)
                              exact t2.trans (HB11.out.mono t2.size)⟩
                      · have HFR := Aside0.mk (show freeR wn hn es X Y Rw Rh = false from freeR_no (fun h => k5 (by omega)))
                        have i5 : decide (Y < (hn : Int)) = false := decide_eq_false k5
                        clear k0 k1 k2 k3 k4 k5
                        go_wp2
                        go_loopg [20, 21] 0 (fun kq v20 v21 ws => v20 = .bool false ∧ v21 = .int .i64 X ∧ ws = wr)
                        case atStart => exact ⟨rfl, rfl, rfl⟩
                        case round =>
                          obtain ⟨rfl, rfl, rfl⟩ := hrel
                          go_wp2_with (first
                            | (go_at_call 20; refine (Take5.calls p mb wn hn es X Y Rw Rh false wr HS9.out (by have := HWH.out; omega) (by have := HWH.out; omega) HOK.out HFR.out).mono ?_; rintro e w10 ⟨r, rfl, hr, hg10⟩; have z1 := hr; have HG10 := Aside0.mk hg10; clear hr hg10 r0 r1 r2 r3)
                            | (go_at_call 9; refine (frisketlaw20_alive.calls true w10 rfl).mono ?_; rintro e w11 ⟨rfl, hb11⟩; have HB11 := Aside0.mk hb11; clear hb11))
                          go_ret
                          exact ⟨rfl, by
                            have t1 := HV.out.trans (HB9.out.mono HV.out.size)
                            have h1 := HBX.out.2.1
                            have h2 := HV.out.size
                            have t2 := t1.trans (below_gr HG10.out (by omega) t1.size)
                            exact t2.trans (HB11.out.mono t2.size)⟩
                    · have HFR := Aside0.mk (show freeR wn hn es X Y Rw Rh = false from freeR_no (fun h => k4 (by omega)))
                      have i4 : decide (X < (wn : Int)) = false := decide_eq_false k4
                      clear k0 k1 k2 k3 k4
                      go_wp2
                      go_loopg [20, 21] 0 (fun kq v20 v21 ws => v20 = .bool false ∧ v21 = .int .i64 X ∧ ws = wr)
                      case atStart => exact ⟨rfl, rfl, rfl⟩
                      case round =>
                        obtain ⟨rfl, rfl, rfl⟩ := hrel
                        go_wp2_with (first
                          | (go_at_call 20; refine (Take5.calls p mb wn hn es X Y Rw Rh false wr HS9.out (by have := HWH.out; omega) (by have := HWH.out; omega) HOK.out HFR.out).mono ?_; rintro e w10 ⟨r, rfl, hr, hg10⟩; have z1 := hr; have HG10 := Aside0.mk hg10; clear hr hg10 r0 r1 r2 r3)
                          | (go_at_call 9; refine (frisketlaw20_alive.calls true w10 rfl).mono ?_; rintro e w11 ⟨rfl, hb11⟩; have HB11 := Aside0.mk hb11; clear hb11))
                        go_ret
                        exact ⟨rfl, by
                          have t1 := HV.out.trans (HB9.out.mono HV.out.size)
                          have h1 := HBX.out.2.1
                          have h2 := HV.out.size
                          have t2 := t1.trans (below_gr HG10.out (by omega) t1.size)
                          exact t2.trans (HB11.out.mono t2.size)⟩
                  · have HFR := Aside0.mk (show freeR wn hn es X Y Rw Rh = false from freeR_no (fun h => k3 (by omega)))
                    have i3 : decide (1 ≤ Rh) = false := decide_eq_false k3
                    clear k0 k1 k2 k3
                    go_wp2
                    go_loopg [20, 21] 0 (fun kq v20 v21 ws => v20 = .bool false ∧ v21 = .int .i64 X ∧ ws = wr)
                    case atStart => exact ⟨rfl, rfl, rfl⟩
                    case round =>
                      obtain ⟨rfl, rfl, rfl⟩ := hrel
                      go_wp2_with (first
                        | (go_at_call 20; refine (Take5.calls p mb wn hn es X Y Rw Rh false wr HS9.out (by have := HWH.out; omega) (by have := HWH.out; omega) HOK.out HFR.out).mono ?_; rintro e w10 ⟨r, rfl, hr, hg10⟩; have z1 := hr; have HG10 := Aside0.mk hg10; clear hr hg10 r0 r1 r2 r3)
                        | (go_at_call 9; refine (frisketlaw20_alive.calls true w10 rfl).mono ?_; rintro e w11 ⟨rfl, hb11⟩; have HB11 := Aside0.mk hb11; clear hb11))
                      go_ret
                      exact ⟨rfl, by
                        have t1 := HV.out.trans (HB9.out.mono HV.out.size)
                        have h1 := HBX.out.2.1
                        have h2 := HV.out.size
                        have t2 := t1.trans (below_gr HG10.out (by omega) t1.size)
                        exact t2.trans (HB11.out.mono t2.size)⟩
                · have HFR := Aside0.mk (show freeR wn hn es X Y Rw Rh = false from freeR_no (fun h => k2 (by omega)))
                  have i2 : decide (1 ≤ Rw) = false := decide_eq_false k2
                  clear k0 k1 k2
                  go_wp2
                  go_loopg [20, 21] 0 (fun kq v20 v21 ws => v20 = .bool false ∧ v21 = .int .i64 X ∧ ws = wr)
                  case atStart => exact ⟨rfl, rfl, rfl⟩
                  case round =>
                    obtain ⟨rfl, rfl, rfl⟩ := hrel
                    go_wp2_with (first
                      | (go_at_call 20; refine (Take5.calls p mb wn hn es X Y Rw Rh false wr HS9.out (by have := HWH.out; omega) (by have := HWH.out; omega) HOK.out HFR.out).mono ?_; rintro e w10 ⟨r, rfl, hr, hg10⟩; have z1 := hr; have HG10 := Aside0.mk hg10; clear hr hg10 r0 r1 r2 r3)
                      | (go_at_call 9; refine (frisketlaw20_alive.calls true w10 rfl).mono ?_; rintro e w11 ⟨rfl, hb11⟩; have HB11 := Aside0.mk hb11; clear hb11))
                    go_ret
                    exact ⟨rfl, by
                      have t1 := HV.out.trans (HB9.out.mono HV.out.size)
                      have h1 := HBX.out.2.1
                      have h2 := HV.out.size
                      have t2 := t1.trans (below_gr HG10.out (by omega) t1.size)
                      exact t2.trans (HB11.out.mono t2.size)⟩
              · have HFR := Aside0.mk (show freeR wn hn es X Y Rw Rh = false from freeR_no (fun h => k1 (by omega)))
                have i1 : decide (0 ≤ Y) = false := decide_eq_false k1
                clear k0 k1
                go_wp2
                go_loopg [20, 21] 0 (fun kq v20 v21 ws => v20 = .bool false ∧ v21 = .int .i64 X ∧ ws = wr)
                case atStart => exact ⟨rfl, rfl, rfl⟩
                case round =>
                  obtain ⟨rfl, rfl, rfl⟩ := hrel
                  go_wp2_with (first
                    | (go_at_call 20; refine (Take5.calls p mb wn hn es X Y Rw Rh false wr HS9.out (by have := HWH.out; omega) (by have := HWH.out; omega) HOK.out HFR.out).mono ?_; rintro e w10 ⟨r, rfl, hr, hg10⟩; have z1 := hr; have HG10 := Aside0.mk hg10; clear hr hg10 r0 r1 r2 r3)
                    | (go_at_call 9; refine (frisketlaw20_alive.calls true w10 rfl).mono ?_; rintro e w11 ⟨rfl, hb11⟩; have HB11 := Aside0.mk hb11; clear hb11))
                  go_ret
                  exact ⟨rfl, by
                    have t1 := HV.out.trans (HB9.out.mono HV.out.size)
                    have h1 := HBX.out.2.1
                    have h2 := HV.out.size
                    have t2 := t1.trans (below_gr HG10.out (by omega) t1.size)
                    exact t2.trans (HB11.out.mono t2.size)⟩
            · have HFR := Aside0.mk (show freeR wn hn es X Y Rw Rh = false from freeR_no (fun h => k0 (by omega)))
              have i0 : decide (0 ≤ X) = false := decide_eq_false k0
              clear k0
              go_wp2
              go_loopg [20, 21] 0 (fun kq v20 v21 ws => v20 = .bool false ∧ v21 = .int .i64 X ∧ ws = wr)
              case atStart => exact ⟨rfl, rfl, rfl⟩
              case round =>
                obtain ⟨rfl, rfl, rfl⟩ := hrel
                go_wp2_with (first
                  | (go_at_call 20; refine (Take5.calls p mb wn hn es X Y Rw Rh false wr HS9.out (by have := HWH.out; omega) (by have := HWH.out; omega) HOK.out HFR.out).mono ?_; rintro e w10 ⟨r, rfl, hr, hg10⟩; have z1 := hr; have HG10 := Aside0.mk hg10; clear hr hg10 r0 r1 r2 r3)
                  | (go_at_call 9; refine (frisketlaw20_alive.calls true w10 rfl).mono ?_; rintro e w11 ⟨rfl, hb11⟩; have HB11 := Aside0.mk hb11; clear hb11))
                go_ret
                exact ⟨rfl, by
                  have t1 := HV.out.trans (HB9.out.mono HV.out.size)
                  have h1 := HBX.out.2.1
                  have h2 := HV.out.size
                  have t2 := t1.trans (below_gr HG10.out (by omega) t1.size)
                  exact t2.trans (HB11.out.mono t2.size)⟩
    · have cb : decide (i < l0.length) = false := decide_eq_false ci
      have cb3 : decide ((i : Int) < (l0.length : Int)) = false := decide_eq_false (by omega)
      have cl : (i < l0.length) = False := eq_false ci
      have H60 := Aside0.mk (show i ≤ 60 by have := HI.out; omega)
      have HBX := Aside0.mk HT.out.b
      obtain ⟨es, hs, hok⟩ : ∃ es, Sh wr p mb (wn : Int) (hn : Int) es ∧ EsOk wn hn es := ⟨cellsL l, HT.out.s, HT.out.es HSS.out⟩
      have HS := Aside0.mk hs
      have HOK := Aside0.mk hok
      have HLE := Aside0.mk (show es.length ≤ wn * hn ∧ es.length ≤ 3600 from ⟨hok.len, hok.big (by have := HWH.out; omega) (by have := HWH.out; omega)⟩)
      have HF0 := Aside0.mk (show wrap64 (wrap64 ((wn : Int) * (hn : Int)) - (es.length : Int)) = ((wn * hn - es.length : Nat) : Int) by
        have h1 := HLE.out
        have h2 : wn * hn ≤ 32 * 32 := Nat.mul_le_mul (by have := HWH.out; omega) (by have := HWH.out; omega)
        rw [← Int.natCast_mul, wr_id (x := ((wn * hn : Nat) : Int)) (by omega), wr_id (by omega)]
        omega)
      have HMM := Aside0.mk (show wn * hn ≤ 32 * 32 by have := HWH.out; exact Nat.mul_le_mul (by omega) (by omega))
      clear HI HT ci hs hok
      go_wp2_with (first
        | (go_at_call 13; refine (Free.calls p mb (wn : Int) (hn : Int) es wr HS.out).mono ?_; rintro e w2 ⟨rfl, ⟨qd, rfl⟩⟩)
        | (go_at_call 16; refine (Owners.calls p mb (wn : Int) (hn : Int) es _ (HS.out.drewN qd) (by have := HLE.out; omega)).mono ?_; rintro e w5 ⟨A5, c5, lo, rfl, hk5, hc5, ha5, hm5, hb5⟩; have HK5 := Aside0.mk hk5; have HC5 := Aside0.mk hc5; have HA5 := Aside0.mk ha5; have HM5 := Aside0.mk hm5; have HB5 := Aside0.mk hb5; clear hk5 hc5 ha5 hm5 hb5))
      rw [HF0.out]
      have HS5 := Aside0.mk ((HS.out.drewN qd).below HB5.out)
      have HB6 := Aside0.mk (show Below V.heap.size V w5 from (pw_below_drewN HBL.out qd).trans (HB5.out.mono (pw_below_drewN HBL.out qd).size))
      have HSM := Aside0.mk (sumC_all lo es HA5.out HM5.out)
      clear HS HF0 HBL HB5
      go_loopg [14, 16] lo.length (fun kq v14 v16 wr => ∃ (i m : Nat), v14 = .int .i64 (m : Int) ∧ v16 = .int .i64 (i : Int) ∧ Aside0 (i + kq = lo.length) ∧ Aside0 (m = wn * hn - es.length + sumC es (lo.take i)) ∧ Aside0 (Below w5.heap.size w5 wr))
      case atStart => exact ⟨0, _, rfl, rfl, ⟨by omega⟩, ⟨by simp [sumC]⟩, ⟨Below.refl _ _⟩⟩
      case round =>
        obtain ⟨i, m, rfl, rfl, HI, HM, HB⟩ := hrel
        by_cases ci : i < lo.length
        · have cb : decide (i < lo.length) = true := decide_eq_true ci
          have cb3 : decide ((i : Int) < (lo.length : Int)) = true := decide_eq_true (by omega)
          have cl : (i < lo.length) = True := eq_true ci
          have HCI := Aside0.mk ci
          obtain ⟨d, rfl⟩ : ∃ d, gk = d + 1 := ⟨gk - 1, by have := HI.out; omega⟩
          obtain ⟨ad, ea, x0⟩ := Kd.at_int (Kd.C_below HK5.out HB.out) (i : Int) (by omega) (by omega)
          subst ea
          simp only [Int.toNat_natCast] at x0
          have HOW := Aside0.mk ((HM5.out _).1 (rd_mem lo i ci))
          have HSU := Aside0.mk (sumC_rd es lo i ci)
          have HLN := Aside0.mk (show i < 3600 by have := HLE.out; have := HSM.out; have := own_len es lo (fun a ha => (HM5.out a).1 ha); omega)
          have HWI := Aside0.mk (show wrap64 ((i : Int) + 1) = ((i + 1 : Nat) : Int) by have := HLN.out; unfold wrap64; omega)
          go_upto_region 17 with (go_at_call 11; refine (Area2.calls p mb wn hn es (rd lo (i : Int)) wr (HS5.out.below HB.out) (by have := HWH.out; omega) (by have := HWH.out; omega) HOK.out HOW.out).mono ?_; rintro e w6 ⟨n, qx, qy, qw, qh, rfl, hn6, hb6⟩; have HN6 := Aside0.mk hn6; have HB7 := Aside0.mk hb6; clear hn6 hb6 ci)
          obtain ⟨V7, hV7⟩ : ∃ V7, w6.alloc (.cells #[.int .i64 qx, .int .i64 qy, .int .i64 qw, .int .i64 qh] 32) = V7 := ⟨_, rfl⟩
          have hq := blk_new w6 (.cells #[.int .i64 qx, .int .i64 qy, .int .i64 qw, .int .i64 qh] 32)
          have hb8 : Below w5.heap.size w5 (w6.alloc (.cells #[.int .i64 qx, .int .i64 qy, .int .i64 qw, .int .i64 qh] 32)) := (HB.out.trans (HB7.out.mono HB.out.size)).alloc (Nat.le_trans HB.out.size HB7.out.size) _
          rw [hV7] at hq hb8 ⊢
          clear hV7 x0
          have HB8 := Aside0.mk hb8
          have y2 := cI hq 2 (v := .int .i64 qw) rfl
          have y3 := cI hq 3 (v := .int .i64 qh) rfl
          obtain ⟨ad2, e2, y0⟩ := Kd.at_int (Kd.C_below HK5.out hb8) (i : Int) (by omega) (by have := HCI.out; omega)
          cases e2
          simp only [Int.toNat_natCast] at y0
          have n1 : decide ((n : Int) < 1) = false := decide_eq_false (by have := HN6.out; omega)
          have n2 : decide (n < 1) = false := decide_eq_false (by have := HN6.out; omega)
          have n3 : (n < 1) = False := eq_false (by have := HN6.out; omega)
          have m1 : wrap64 (qw * qh) = qw * qh := HN6.out.2.2.1
          have m2 : IntKind.i64.wrap (qw * qh) = qw * qh := by have := HN6.out.2.2.1; rw [IntKind.wrap_i64]; unfold wrap64 at this; omega
          have HWM := Aside0.mk (show wrap64 ((m : Int) + (n : Int)) = ((m + n : Nat) : Int) by
            have h1 := HM.out; have h2 := HSU.out; have h3 := HN6.out.1; have h4 := sumC_part es lo (i + 1); have h5 := HSM.out; have h6 := HLE.out; have h7 := HMM.out
            rw [wr_id (by omega)]; omega)
          have m3 : decide (qw * qh < (n : Int)) = false := decide_eq_false (by have := HN6.out; omega)
          clear hq hb8
          by_cases hi0 : i = 0
          · have d0 : decide (0 < i) = false := decide_eq_false (by omega)
            have d1 : decide (0 < (i : Int)) = false := decide_eq_false (by omega)
            have d2 : (0 < i) = False := eq_false (by omega)
            clear hi0
            go_quiet (fail)
            go_wp2
            go_roundg d
            case measure => have := HI.out; omega
            case rel => exact ⟨i + 1, m + n, by rw [HWM.out], by rw [HWI.out], ⟨by have := HI.out; omega⟩, ⟨by rw [HSU.out, HM.out, HN6.out.1]; omega⟩, ⟨pw_below_drewN HB8.out _⟩⟩
          · obtain ⟨k, hk⟩ : ∃ k, i = k + 1 := ⟨i - 1, by omega⟩
            have d0 : decide (0 < i) = true := decide_eq_true (by omega)
            have d1 : decide (0 < (i : Int)) = true := decide_eq_true (by omega)
            have d2 : (0 < i) = True := eq_true (by omega)
            have w1 : wrap64 ((i : Int) - 1) = (k : Int) := by have := HWI.out; have := HLN.out; unfold wrap64; omega
            have w1' : IntKind.i64.wrap ((i : Int) - 1) = (k : Int) := by rw [IntKind.wrap_i64]; have := HLN.out; omega
            have ck : (k < lo.length) = True := eq_true (by have := HCI.out; omega)
            obtain ⟨ad3, e3, y1⟩ := Kd.at_int (Kd.C_below HK5.out HB8.out) (k : Int) (by omega) (by have := HCI.out; omega)
            cases e3
            simp only [Int.toNat_natCast] at y1
            have as1 : decide (rd lo (i : Int) ≤ rd lo (k : Int)) = false := decide_eq_false (by have := rd_asc HA5.out k (by have := HCI.out; omega); rw [← hk] at this; omega)
            clear hi0 hk
            go_quiet (fail)
            go_wp2
            go_roundg d
            case measure => have := HI.out; omega
            case rel => exact ⟨i + 1, m + n, by rw [HWM.out], by rw [HWI.out], ⟨by have := HI.out; omega⟩, ⟨by rw [HSU.out, HM.out, HN6.out.1]; omega⟩, ⟨pw_below_drewN HB8.out _⟩⟩
        · have cb : decide (i < lo.length) = false := decide_eq_false ci
          have cb3 : decide ((i : Int) < (lo.length : Int)) = false := decide_eq_false (by omega)
          have cl : (i < lo.length) = False := eq_false ci
          have hii : i = lo.length := by have := HI.out; omega
          have hmt : m = wn * hn := by
            have h1 := HM.out
            rw [hii, List.take_length, HSM.out] at h1
            have := HLE.out
            omega
          have mm : ((m : Int) == wrap64 ((wn : Int) * (hn : Int))) = true := by
            rw [hmt, ← Int.natCast_mul, wr_id (by have := HMM.out; omega)]
            exact beq_self_eq_true _
          have HB9 := Aside0.mk (HB6.out.trans (HB.out.mono HB6.out.size))
          have HS9 := Aside0.mk (HS5.out.below HB.out)
          have hbx := blk_below HB2.out HB9.out
          have r0 := cI hbx 0 (v := .int .i64 X) rfl
          have r1 := cI hbx 1 (v := .int .i64 Y) rfl
          have r2 := cI hbx 2 (v := .int .i64 Rw) rfl
          have r3 := cI hbx 3 (v := .int .i64 Rh) rfl
          clear hii hmt hbx HI HM HB ci HB6 HS5 HK5 HA5 HM5 HC5 HSM
          by_cases k0 : 0 ≤ X
          · have i0 : decide (0 ≤ X) = true := decide_eq_true k0
            by_cases k1 : 0 ≤ Y
            · have i1 : decide (0 ≤ Y) = true := decide_eq_true k1
              by_cases k2 : 1 ≤ Rw
              · have i2 : decide (1 ≤ Rw) = true := decide_eq_true k2
                by_cases k3 : 1 ≤ Rh
                · have i3 : decide (1 ≤ Rh) = true := decide_eq_true k3
                  by_cases k4 : X < (wn : Int)
                  · have i4 : decide (X < (wn : Int)) = true := decide_eq_true k4
                    have s1 : wrap64 ((wn : Int) - X) = (wn : Int) - X := wr_id (by have := HWH.out; omega)
                    by_cases k5 : Y < (hn : Int)
                    · have i5 : decide (Y < (hn : Int)) = true := decide_eq_true k5
                      have s2 : wrap64 ((hn : Int) - Y) = (hn : Int) - Y := wr_id (by have := HWH.out; omega)
                      by_cases k6 : Rw ≤ (wn : Int) - X
                      · have i6 : decide (Rw ≤ (wn : Int) - X) = true := decide_eq_true k6
                        by_cases k7 : Rh ≤ (hn : Int) - Y
                        · have i7 : decide (Rh ≤ (hn : Int) - Y) = true := decide_eq_true k7
                          have HIN := Aside0.mk (show 0 ≤ X ∧ 0 ≤ Y ∧ 1 ≤ Rw ∧ 1 ≤ Rh ∧ X < (wn : Int) ∧ Y < (hn : Int) ∧ Rw ≤ (wn : Int) - X ∧ Rh ≤ (hn : Int) - Y from ⟨k0, k1, k2, k3, k4, k5, k6, k7⟩)
                          clear k0 k1 k4 k5 k6 k7
                          obtain ⟨rw_, rfl⟩ : ∃ k : Nat, Rw = (k : Int) := ⟨Rw.toNat, by omega⟩
                          obtain ⟨rh, rfl⟩ : ∃ k : Nat, Rh = (k : Int) := ⟨Rh.toNat, by omega⟩
                          clear k2 k3
                          have HU1 := Aside0.mk (show wrap64 (X + (rw_ : Int)) = X + (rw_ : Int) from wr_id (by have := HWH.out; have := HIN.out; omega))
                          have HV1 := Aside0.mk (show wrap64 (Y + (rh : Int)) = Y + (rh : Int) from wr_id (by have := HWH.out; have := HIN.out; omega))
                          go_upto_region 21 with (fail)
                          clear s1 s2
                          go_wp2
                          go_loopg [20, 21] rw_ (fun kq v20 v21 ws => ∃ (i : Nat), v20 = .bool (freeC es X Y rh (i * rh)) ∧ v21 = .int .i64 (X + (i : Int)) ∧ ws = wr ∧ Aside0 (i + kq = rw_))
                          case atStart => exact ⟨0, by rw [Nat.zero_mul]; rfl, by simp, rfl, ⟨by omega⟩⟩
                          case round =>
                            obtain ⟨i, rfl, rfl, rfl, HI⟩ := hrel
                            by_cases ci : i < rw_
                            · have u2 : decide (X + (i : Int) < X + (rw_ : Int)) = true := decide_eq_true (by omega)
                              have u4 : decide (i < rw_) = true := decide_eq_true ci
                              have u5 : (i < rw_) = True := eq_true ci
                              have u6 : decide ((i : Int) < (rw_ : Int)) = true := decide_eq_true (by omega)
                              have u3 : decide (X + (i : Int) < wrap64 (X + (rw_ : Int))) = true := by rw [HU1.out]; exact u2
                              have HCI := Aside0.mk ci
                              have HWI := Aside0.mk (show wrap64 (X + (i : Int) + 1) = X + ((i + 1 : Nat) : Int) by rw [wr_id (by have := HWH.out; have := HIN.out; omega)]; omega)
                              obtain ⟨d, rfl⟩ : ∃ d, gk = d + 1 := ⟨gk - 1, by have := HI.out; omega⟩
                              clear ci
                              go_wp2
                              go_loopg [20, 22] rh (fun kq v20 v22 ws => ∃ (j : Nat), v20 = .bool (freeC es X Y rh (i * rh + j)) ∧ v22 = .int .i64 (Y + (j : Int)) ∧ ws = wr ∧ Aside0 (j + kq = rh))
                              case atStart => exact ⟨0, rfl, by simp, rfl, ⟨by omega⟩⟩
                              case round =>
                                obtain ⟨j, rfl, rfl, rfl, HJ⟩ := hrel
                                by_cases cj : j < rh
                                · have v2 : decide (Y + (j : Int) < Y + (rh : Int)) = true := decide_eq_true (by omega)
                                  have v4 : decide (j < rh) = true := decide_eq_true cj
                                  have v5 : (j < rh) = True := eq_true cj
                                  have v6 : decide ((j : Int) < (rh : Int)) = true := decide_eq_true (by omega)
                                  have v3 : decide (Y + (j : Int) < wrap64 (Y + (rh : Int))) = true := by rw [HV1.out]; exact v2
                                  have HST := Aside0.mk (freeC_step (X := X) (Y := Y) (rw_ := rw_) (rh := rh) (by have := HWH.out; have := HIN.out; omega) es i j HCI.out cj)
                                  have HWJ := Aside0.mk (show wrap64 (Y + (j : Int) + 1) = Y + ((j + 1 : Nat) : Int) by rw [wr_id (by have := HWH.out; have := HIN.out; omega)]; omega)
                                  have HKX := Aside0.mk (show inK (X + (i : Int)) from inK_small (by have := HWH.out; have := HIN.out; have := HCI.out; omega))
                                  have HKY := Aside0.mk (show inK (Y + (j : Int)) from inK_small (by have := HWH.out; have := HIN.out; omega))
                                  obtain ⟨d2, rfl⟩ : ∃ d2, gk = d2 + 1 := ⟨gk - 1, by have := HJ.out; omega⟩
                                  obtain ⟨b, hb⟩ : ∃ b, freeC es X Y rh (i * rh + j) = b := ⟨_, rfl⟩
                                  rw [hb]
                                  have HSB := Aside0.mk hb
                                  clear hb cj
                                  cases b with
                                  | true =>
                                    go_wp2_with (go_at_call 18; refine (At.calls p mb _ _ es (X + (i : Int)) (Y + (j : Int)) wr HS9.out HKX.out HKY.out).mono ?_; rintro e w2 ⟨rfl, rfl⟩)
                                    go_roundg d2
                                    case measure => have := HJ.out; omega
                                    case rel => exact ⟨j + 1, by rw [← Nat.add_assoc, HST.out, HSB.out]; rfl, by rw [HWJ.out], rfl, ⟨by have := HJ.out; omega⟩⟩
                                  | false =>
                                    go_wp2
                                    go_roundg d2
                                    case measure => have := HJ.out; omega
                                    case rel => exact ⟨j + 1, by rw [← Nat.add_assoc, HST.out, HSB.out]; rfl, by rw [HWJ.out], rfl, ⟨by have := HJ.out; omega⟩⟩
                                · have v2 : decide (Y + (j : Int) < Y + (rh : Int)) = false := decide_eq_false (by omega)
                                  have v4 : decide (j < rh) = false := decide_eq_false cj
                                  have v5 : (j < rh) = False := eq_false cj
                                  have v6 : decide ((j : Int) < (rh : Int)) = false := decide_eq_false (by omega)
                                  have v3 : decide (Y + (j : Int) < wrap64 (Y + (rh : Int))) = false := by rw [HV1.out]; exact v2
                                  have HJJ := Aside0.mk (show i * rh + j = (i + 1) * rh by rw [Nat.succ_mul]; have := HJ.out; omega)
                                  clear cj
                                  go_wp2
                                  go_roundg d
                                  case measure => have := HI.out; omega
                                  case rel => exact ⟨i + 1, by rw [HJJ.out], by rw [HWI.out], rfl, ⟨by have := HI.out; omega⟩⟩
                            · have u2 : decide (X + (i : Int) < X + (rw_ : Int)) = false := decide_eq_false (by omega)
                              have u4 : decide (i < rw_) = false := decide_eq_false ci
                              have u5 : (i < rw_) = False := eq_false ci
                              have u6 : decide ((i : Int) < (rw_ : Int)) = false := decide_eq_false (by omega)
                              have u3 : decide (X + (i : Int) < wrap64 (X + (rw_ : Int))) = false := by rw [HU1.out]; exact u2
                              have hii : i = rw_ := by have := HI.out; omega
                              have hfr := freeR_in (wn := wn) (hn := hn) (es := es) (X := X) (Y := Y) (rw_ := rw_) (rh := rh) (by have := HIN.out; omega)
                              rw [← hii] at hfr
                              obtain ⟨b, hb⟩ : ∃ b, freeC es X Y rh (i * rh) = b := ⟨_, rfl⟩
                              rw [hb]
                              rw [hb, hii] at hfr
                              have HFR := Aside0.mk hfr
                              clear hb hfr hii ci
                              cases b with
                              | true =>
                                go_wp2_with (first
                                  | (go_at_call 20; refine (Take5.calls p mb wn hn es X Y (rw_ : Int) (rh : Int) true wr HS9.out (by have := HWH.out; omega) (by have := HWH.out; omega) HOK.out HFR.out).mono ?_; rintro e w10 ⟨r, rfl, hr, hg10⟩; have z1 := hr; have HG10 := Aside0.mk hg10; clear hr hg10 r0 r1 r2 r3)
                                  | (go_at_call 9; refine (frisketlaw20_alive.calls true w10 rfl).mono ?_; rintro e w11 ⟨rfl, hb11⟩; have HB11 := Aside0.mk hb11; clear hb11))
                                go_ret
                                exact ⟨rfl, by
                                  have t1 := HV.out.trans (HB9.out.mono HV.out.size)
                                  have h1 := HBX.out.2.1
                                  have h2 := HV.out.size
                                  have t2 := t1.trans (below_gr HG10.out (by omega) t1.size)
                                  exact t2.trans (HB11.out.mono t2.size)⟩
                              | false =>
                                go_wp2_with (first
                                  | (go_at_call 20; refine (Take5.calls p mb wn hn es X Y (rw_ : Int) (rh : Int) false wr HS9.out (by have := HWH.out; omega) (by have := HWH.out; omega) HOK.out HFR.out).mono ?_; rintro e w10 ⟨r, rfl, hr, hg10⟩; have z1 := hr; have HG10 := Aside0.mk hg10; clear hr hg10 r0 r1 r2 r3)
                                  | (go_at_call 9; refine (frisketlaw20_alive.calls true w10 rfl).mono ?_; rintro e w11 ⟨rfl, hb11⟩; have HB11 := Aside0.mk hb11; clear hb11))
                                go_ret
                                exact ⟨rfl, by
                                  have t1 := HV.out.trans (HB9.out.mono HV.out.size)
                                  have h1 := HBX.out.2.1
                                  have h2 := HV.out.size
                                  have t2 := t1.trans (below_gr HG10.out (by omega) t1.size)
                                  exact t2.trans (HB11.out.mono t2.size)⟩
                        · have HFR := Aside0.mk (show freeR wn hn es X Y Rw Rh = false from freeR_no (fun h => k7 (by omega)))
                          have i7 : decide (Rh ≤ (hn : Int) - Y) = false := decide_eq_false k7
                          clear k0 k1 k2 k3 k4 k5 k6 k7
                          go_wp2
                          go_loopg [20, 21] 0 (fun kq v20 v21 ws => v20 = .bool false ∧ v21 = .int .i64 X ∧ ws = wr)
                          case atStart => exact ⟨rfl, rfl, rfl⟩
                          case round =>
                            obtain ⟨rfl, rfl, rfl⟩ := hrel
                            go_wp2_with (first
                              | (go_at_call 20; refine (Take5.calls p mb wn hn es X Y Rw Rh false wr HS9.out (by have := HWH.out; omega) (by have := HWH.out; omega) HOK.out HFR.out).mono ?_; rintro e w10 ⟨r, rfl, hr, hg10⟩; have z1 := hr; have HG10 := Aside0.mk hg10; clear hr hg10 r0 r1 r2 r3)
                              | (go_at_call 9; refine (frisketlaw20_alive.calls true w10 rfl).mono ?_; rintro e w11 ⟨rfl, hb11⟩; have HB11 := Aside0.mk hb11; clear hb11))
                            go_ret
                            exact ⟨rfl, by
                              have t1 := HV.out.trans (HB9.out.mono HV.out.size)
                              have h1 := HBX.out.2.1
                              have h2 := HV.out.size
                              have t2 := t1.trans (below_gr HG10.out (by omega) t1.size)
                              exact t2.trans (HB11.out.mono t2.size)⟩
                      · have HFR := Aside0.mk (show freeR wn hn es X Y Rw Rh = false from freeR_no (fun h => k6 (by omega)))
                        have i6 : decide (Rw ≤ (wn : Int) - X) = false := decide_eq_false k6
                        clear k0 k1 k2 k3 k4 k5 k6
                        go_wp2
                        go_loopg [20, 21] 0 (fun kq v20 v21 ws => v20 = .bool false ∧ v21 = .int .i64 X ∧ ws = wr)
                        case atStart => exact ⟨rfl, rfl, rfl⟩
                        case round =>
                          obtain ⟨rfl, rfl, rfl⟩ := hrel
                          go_wp2_with (first
                            | (go_at_call 20; refine (Take5.calls p mb wn hn es X Y Rw Rh false wr HS9.out (by have := HWH.out; omega) (by have := HWH.out; omega) HOK.out HFR.out).mono ?_; rintro e w10 ⟨r, rfl, hr, hg10⟩; have z1 := hr; have HG10 := Aside0.mk hg10; clear hr hg10 r0 r1 r2 r3)
                            | (go_at_call 9; refine (frisketlaw20_alive.calls true w10 rfl).mono ?_; rintro e w11 ⟨rfl, hb11⟩; have HB11 := Aside0.mk hb11; clear hb11))
                          go_ret
                          exact ⟨rfl, by
                            have t1 := HV.out.trans (HB9.out.mono HV.out.size)
                            have h1 := HBX.out.2.1
                            have h2 := HV.out.size
                            have t2 := t1.trans (below_gr HG10.out (by omega) t1.size)
                            exact t2.trans (HB11.out.mono t2.size)⟩
                    · have HFR := Aside0.mk (show freeR wn hn es X Y Rw Rh = false from freeR_no (fun h => k5 (by omega)))
                      have i5 : decide (Y < (hn : Int)) = false := decide_eq_false k5
                      clear k0 k1 k2 k3 k4 k5
                      go_wp2
                      go_loopg [20, 21] 0 (fun kq v20 v21 ws => v20 = .bool false ∧ v21 = .int .i64 X ∧ ws = wr)
                      case atStart => exact ⟨rfl, rfl, rfl⟩
                      case round =>
                        obtain ⟨rfl, rfl, rfl⟩ := hrel
                        go_wp2_with (first
                          | (go_at_call 20; refine (Take5.calls p mb wn hn es X Y Rw Rh false wr HS9.out (by have := HWH.out; omega) (by have := HWH.out; omega) HOK.out HFR.out).mono ?_; rintro e w10 ⟨r, rfl, hr, hg10⟩; have z1 := hr; have HG10 := Aside0.mk hg10; clear hr hg10 r0 r1 r2 r3)
                          | (go_at_call 9; refine (frisketlaw20_alive.calls true w10 rfl).mono ?_; rintro e w11 ⟨rfl, hb11⟩; have HB11 := Aside0.mk hb11; clear hb11))
                        go_ret
                        exact ⟨rfl, by
                          have t1 := HV.out.trans (HB9.out.mono HV.out.size)
                          have h1 := HBX.out.2.1
                          have h2 := HV.out.size
                          have t2 := t1.trans (below_gr HG10.out (by omega) t1.size)
                          exact t2.trans (HB11.out.mono t2.size)⟩
                  · have HFR := Aside0.mk (show freeR wn hn es X Y Rw Rh = false from freeR_no (fun h => k4 (by omega)))
                    have i4 : decide (X < (wn : Int)) = false := decide_eq_false k4
                    clear k0 k1 k2 k3 k4
                    go_wp2
                    go_loopg [20, 21] 0 (fun kq v20 v21 ws => v20 = .bool false ∧ v21 = .int .i64 X ∧ ws = wr)
                    case atStart => exact ⟨rfl, rfl, rfl⟩
                    case round =>
                      obtain ⟨rfl, rfl, rfl⟩ := hrel
                      go_wp2_with (first
                        | (go_at_call 20; refine (Take5.calls p mb wn hn es X Y Rw Rh false wr HS9.out (by have := HWH.out; omega) (by have := HWH.out; omega) HOK.out HFR.out).mono ?_; rintro e w10 ⟨r, rfl, hr, hg10⟩; have z1 := hr; have HG10 := Aside0.mk hg10; clear hr hg10 r0 r1 r2 r3)
                        | (go_at_call 9; refine (frisketlaw20_alive.calls true w10 rfl).mono ?_; rintro e w11 ⟨rfl, hb11⟩; have HB11 := Aside0.mk hb11; clear hb11))
                      go_ret
                      exact ⟨rfl, by
                        have t1 := HV.out.trans (HB9.out.mono HV.out.size)
                        have h1 := HBX.out.2.1
                        have h2 := HV.out.size
                        have t2 := t1.trans (below_gr HG10.out (by omega) t1.size)
                        exact t2.trans (HB11.out.mono t2.size)⟩
                · have HFR := Aside0.mk (show freeR wn hn es X Y Rw Rh = false from freeR_no (fun h => k3 (by omega)))
                  have i3 : decide (1 ≤ Rh) = false := decide_eq_false k3
                  clear k0 k1 k2 k3
                  go_wp2
                  go_loopg [20, 21] 0 (fun kq v20 v21 ws => v20 = .bool false ∧ v21 = .int .i64 X ∧ ws = wr)
                  case atStart => exact ⟨rfl, rfl, rfl⟩
                  case round =>
                    obtain ⟨rfl, rfl, rfl⟩ := hrel
                    go_wp2_with (first
                      | (go_at_call 20; refine (Take5.calls p mb wn hn es X Y Rw Rh false wr HS9.out (by have := HWH.out; omega) (by have := HWH.out; omega) HOK.out HFR.out).mono ?_; rintro e w10 ⟨r, rfl, hr, hg10⟩; have z1 := hr; have HG10 := Aside0.mk hg10; clear hr hg10 r0 r1 r2 r3)
                      | (go_at_call 9; refine (frisketlaw20_alive.calls true w10 rfl).mono ?_; rintro e w11 ⟨rfl, hb11⟩; have HB11 := Aside0.mk hb11; clear hb11))
                    go_ret
                    exact ⟨rfl, by
                      have t1 := HV.out.trans (HB9.out.mono HV.out.size)
                      have h1 := HBX.out.2.1
                      have h2 := HV.out.size
                      have t2 := t1.trans (below_gr HG10.out (by omega) t1.size)
                      exact t2.trans (HB11.out.mono t2.size)⟩
              · have HFR := Aside0.mk (show freeR wn hn es X Y Rw Rh = false from freeR_no (fun h => k2 (by omega)))
                have i2 : decide (1 ≤ Rw) = false := decide_eq_false k2
                clear k0 k1 k2
                go_wp2
                go_loopg [20, 21] 0 (fun kq v20 v21 ws => v20 = .bool false ∧ v21 = .int .i64 X ∧ ws = wr)
                case atStart => exact ⟨rfl, rfl, rfl⟩
                case round =>
                  obtain ⟨rfl, rfl, rfl⟩ := hrel
                  go_wp2_with (first
                    | (go_at_call 20; refine (Take5.calls p mb wn hn es X Y Rw Rh false wr HS9.out (by have := HWH.out; omega) (by have := HWH.out; omega) HOK.out HFR.out).mono ?_; rintro e w10 ⟨r, rfl, hr, hg10⟩; have z1 := hr; have HG10 := Aside0.mk hg10; clear hr hg10 r0 r1 r2 r3)
                    | (go_at_call 9; refine (frisketlaw20_alive.calls true w10 rfl).mono ?_; rintro e w11 ⟨rfl, hb11⟩; have HB11 := Aside0.mk hb11; clear hb11))
                  go_ret
                  exact ⟨rfl, by
                    have t1 := HV.out.trans (HB9.out.mono HV.out.size)
                    have h1 := HBX.out.2.1
                    have h2 := HV.out.size
                    have t2 := t1.trans (below_gr HG10.out (by omega) t1.size)
                    exact t2.trans (HB11.out.mono t2.size)⟩
            · have HFR := Aside0.mk (show freeR wn hn es X Y Rw Rh = false from freeR_no (fun h => k1 (by omega)))
              have i1 : decide (0 ≤ Y) = false := decide_eq_false k1
              clear k0 k1
              go_wp2
              go_loopg [20, 21] 0 (fun kq v20 v21 ws => v20 = .bool false ∧ v21 = .int .i64 X ∧ ws = wr)
              case atStart => exact ⟨rfl, rfl, rfl⟩
              case round =>
                obtain ⟨rfl, rfl, rfl⟩ := hrel
                go_wp2_with (first
                  | (go_at_call 20; refine (Take5.calls p mb wn hn es X Y Rw Rh false wr HS9.out (by have := HWH.out; omega) (by have := HWH.out; omega) HOK.out HFR.out).mono ?_; rintro e w10 ⟨r, rfl, hr, hg10⟩; have z1 := hr; have HG10 := Aside0.mk hg10; clear hr hg10 r0 r1 r2 r3)
                  | (go_at_call 9; refine (frisketlaw20_alive.calls true w10 rfl).mono ?_; rintro e w11 ⟨rfl, hb11⟩; have HB11 := Aside0.mk hb11; clear hb11))
                go_ret
                exact ⟨rfl, by
                  have t1 := HV.out.trans (HB9.out.mono HV.out.size)
                  have h1 := HBX.out.2.1
                  have h2 := HV.out.size
                  have t2 := t1.trans (below_gr HG10.out (by omega) t1.size)
                  exact t2.trans (HB11.out.mono t2.size)⟩
          · have HFR := Aside0.mk (show freeR wn hn es X Y Rw Rh = false from freeR_no (fun h => k0 (by omega)))
            have i0 : decide (0 ≤ X) = false := decide_eq_false k0
            clear k0
            go_wp2
            go_loopg [20, 21] 0 (fun kq v20 v21 ws => v20 = .bool false ∧ v21 = .int .i64 X ∧ ws = wr)
            case atStart => exact ⟨rfl, rfl, rfl⟩
            case round =>
              obtain ⟨rfl, rfl, rfl⟩ := hrel
              go_wp2_with (first
                | (go_at_call 20; refine (Take5.calls p mb wn hn es X Y Rw Rh false wr HS9.out (by have := HWH.out; omega) (by have := HWH.out; omega) HOK.out HFR.out).mono ?_; rintro e w10 ⟨r, rfl, hr, hg10⟩; have z1 := hr; have HG10 := Aside0.mk hg10; clear hr hg10 r0 r1 r2 r3)
                | (go_at_call 9; refine (frisketlaw20_alive.calls true w10 rfl).mono ?_; rintro e w11 ⟨rfl, hb11⟩; have HB11 := Aside0.mk hb11; clear hb11))
              go_ret
              exact ⟨rfl, by
                have t1 := HV.out.trans (HB9.out.mono HV.out.size)
                have h1 := HBX.out.2.1
                have h2 := HV.out.size
                have t2 := t1.trans (below_gr HG10.out (by omega) t1.size)
                exact t2.trans (HB11.out.mono t2.size)⟩
end Go.Proofs.Ytpljnkfbcgdafaa.P
