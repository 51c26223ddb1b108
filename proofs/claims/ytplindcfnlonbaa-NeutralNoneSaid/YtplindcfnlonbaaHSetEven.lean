/- neutral.Settle's walk. -/
import Derived.Test.YtplindcfnlonbaaHSetL
import Derived.RangeFuncCalls
namespace Go.Proofs.Ytplindcfnlonbaa.P
open Go.RowKit Go.Shelf Go.Proofs.YtplindcfnlonbaaW.PrintWords Go.Proofs.YtplindcfnlonbaaW.PrintLast Go.Proofs.YtplindcfnlonbaaW.PrintMore
set_option linter.unusedVariables false
set_option linter.unusedSimpArgs false
attribute [local go_sem] Oper.semAt_some

set_option maxHeartbeats 16000000 in
set_option maxRecDepth 100000 in
theorem settle_even (A0 : Option Addr) (c0 : Nat) (l0 : List Int) (lv fi la : Int) (w : World) (hr0 : Kd.C (Kd.int .i64) w A0 l0.length l0) (hc0 : l0.length ≤ c0) (hl : l0.length < 17592186044416) (h1 : 0 ≤ lv) (h2 : lv ≤ 125) (h3 : fi = 0 ∨ fi = 1) (h4 : la = 0 ∨ la = 1) (godd : (Int.tmod lv 2 == 1) = false) :
    Calls Try.prog 8 #[.slice A0 l0.length c0, .agg #[.int .i64 lv, .int .i64 fi, .int .i64 la]] w fun e w' => ∃ v0_ : Value, e = .returned (.tuple #[v0_, .int .i64 0]) ∧ Kd.R (Kd.int .i64) 23 w' w.heap.size (fun _ => True) v0_ (upTo l0 0 fi la (stN l0 l0.length 0 0)) ∧ Below w.heap.size w w' := by
  refine (callsIn_wide (n := 6)).1 ?_
  refine callsIn_of_wp_marks Try.func8 rfl trivial ?_ rfl
  simp only [Try.ntmps8, List.size_toArray, List.length_cons, List.length_nil, Nat.reduceAdd, Nat.reduceSub, Array.replicate_succ, Array.replicate_zero, List.push_toArray, List.append_toArray, List.nil_append, List.cons_append]
  have g1 : (lv < 0) = False := eq_false (by omega)
  have g2 : (125 < lv) = False := eq_false (by omega)
  have HS1 := Aside0.mk (strong_of h3)
  have HS2 := Aside0.mk (strong_of h4)
  have HL := Aside0.mk hl
  have H3 := Aside0.mk h3
  have hu30 := Try.underlying30
  have hu25 := Try.underlying25
  clear h1 h2 h3 h4 hl
  gi_wp2_with (first | (refine ⟨trivial, ?_⟩; gi_at_call 16; refine (callsIn_wide.2 (neutral_strong.calls _ true _ HS1.out)).mono ?_; rintro e w1 ⟨rfl, ⟨⟨m1, rfl⟩⟩⟩; clear HS1) | (refine ⟨trivial, ?_⟩; gi_at_call 16; refine (callsIn_wide.2 (neutral_strong.calls _ true _ HS2.out)).mono ?_; rintro e w1 ⟨rfl, ⟨⟨m2, rfl⟩⟩⟩; clear HS2))
  refine ⟨trivial, ?_⟩
  gi_at_call 17
  refine (callsIn_wide.2 (clone_calls A0 c0 l0 _ (Kd.C_below hr0 (by repeat (first | apply below_alloc | apply pw_below_drewN | exact Below.refl _ _))) hc0 HL.out)).mono ?_
  rintro e w2 ⟨v1, rfl, hR, hb⟩
  obtain ⟨A, c, e⟩ := Kd.R_slice hR
  subst e
  have b0 := blk_below (blk_alloc (blk_drewN (blk_alloc (blk_new w (.cells #[.slice A0 l0.length c0] 22)) (.cells #[.int .i64 lv, .int .i64 fi, .int .i64 la] 30)) (m1 + m2)) (.cells #[.int .i64 0] 23)) hb
  have b1 : w2.heap[w.heap.size + 1]? = some (.cells #[.int .i64 lv, .int .i64 fi, .int .i64 la] 30 (0, 0)) := by (have := blk_below (blk_alloc (blk_drewN (blk_new (w.alloc (.cells #[.slice A0 l0.length c0] 22)) (.cells #[.int .i64 lv, .int .i64 fi, .int .i64 la] 30)) (m1 + m2)) (.cells #[.int .i64 0] 23)) hb; simpa using this)
  have b2 : w2.heap[w.heap.size + 1 + 1]? = some (.cells #[.int .i64 0] 23 (0, 0)) := by (have := blk_below (blk_new (((w.alloc (.cells #[.slice A0 l0.length c0] 22)).alloc (.cells #[.int .i64 lv, .int .i64 fi, .int .i64 la] 30)).drewN (m1 + m2)) (.cells #[.int .i64 0] 23)) hb; simpa using this)
  have hB2 : Below w.heap.size w w2 := below_step (by repeat (first | apply below_alloc | apply pw_below_drewN | exact Below.refl _ _)) hb
  have hsz : w.heap.size + 1 + 1 + 1 ≤ w2.heap.size := by (have := hb.size; simpa using this)
  have HR := Aside0.mk hR
  have HB2 := Aside0.mk hB2
  have K0 := cI b0 0 (v := .slice A0 l0.length c0) rfl
  have B0 := Aside0.mk b0
  have B1 := Aside0.mk b1
  have B2 := Aside0.mk b2
  have HSZ := Aside0.mk hsz
  have hwl : w.heap.size < w2.heap.size := by omega
  clear hR hB2 b0 b1 b2 hb hsz
  gi_wp2_with ((refine ⟨trivial, ?_⟩; gi_at_call 18; refine (st_in _ _ _ rfl).mono ?_; rintro e w3 ⟨rfl, rfl⟩))
  obtain ⟨base, hbase⟩ : ∃ base, base = w.heap.size + 1 + 1 + 1 := ⟨_, rfl⟩
  have hrow : Row w2 base (.slice A l0.length c) l0 := by rw [hbase]; exact row_weak HR.out (by simp)
  clear HR
  obtain ⟨g, hg1, hg2, hg3, hg4⟩ := lead hrow rfl (by have := HSZ.out; omega)
  obtain ⟨W0, hW0⟩ : ∃ W0, ((w2.alloc (.cells #[.slice A l0.length c] 22)).alloc (.cells #[.slice A0 l0.length c0] 22)) = W0 := ⟨_, rfl⟩
  have hKA : KG w.heap.size g w2 W0 := by rw [← hW0]; exact ((KG.refl _ g w2).alloc HB2.out.size _).alloc HB2.out.size _
  have hrow0 : Row W0 base (.slice A l0.length c) l0 := by rw [← hW0]; exact Kd.R_alloc (Kd.R_alloc hrow _) _
  have x0 : Boxed W0 w2.heap.size 22 (.slice A l0.length c) := by
    rw [← hW0]; exact (Boxed.new w2 22 _).alloc _
  have x1 : Boxed W0 (w2.heap.size + 1) 22 (.slice A0 l0.length c0) := by
    have := Boxed.new (w2.alloc (.cells #[.slice A l0.length c] 22)) 22 (.slice A0 l0.length c0)
    rw [← hW0]; simpa using this
  have hsz0 : W0.heap.size = w2.heap.size + 2 := by rw [← hW0]; simp
  have HB0 : Aside0 (Below w.heap.size w W0) := ⟨HB2.out.trans hKA.bel⟩
  have y0 := hKA.keep _ _ B0.out rfl (by omega)
  have y1 := hKA.keep _ _ B1.out rfl (by omega)
  have y2 := hKA.keep _ _ B2.out rfl (by omega)
  have hw0 := HB0.out.size
  have hlt0 := HSZ.out
  rw [hW0]
  clear hW0 hKA hrow K0 B0 B1 B2 HB2
  refine' rangeFunc_W rfl (by omega) (gf := 21) (lb := #[.pointer (some ⟨w2.heap.size + 1, 0, none⟩)]) rfl trivial (enters_of Try.func21 (by kernel_rfl) rfl)
    (st_stops _ (by omega) w g (w2.heap.size + 1) A0 c0 l0 HL.out W0 HB0.out hr0 hc0 x1 (by omega))
    KG.t (KG.b (by omega)) (Below.refl _ _) (fun _ => rfl)
    (fun (pre : List (Int × Int)) W => Row W base (.slice A l0.length c) (upTo l0 0 fi la pre) ∧ KG w.heap.size g W0 W)
    (fun s A l o o' hl ho hc hs => ⟨row_obj hs.1 l o o' ho hc, hs.2.p (w := W0) (by omega) l o o' hl ho hc⟩) (fun s A o hs => ⟨Kd.R_alloc hs.1 o, hs.2.alloc (by omega) o⟩)
    (fun W s A B hW hs hst => ⟨Kd.R_below hs.1 hst, hs.2.step (by omega) hst⟩)
    (fun W A B hst k o hk ho hc => blk_below ho hst)
    ⟨hrow0, KG.refl _ _ _⟩
    _ ?assign ?body ?done
  case assign =>
    intro l x W K hK
    gi_wp2
    exact hK
  case body =>
    rintro l pre x W ⟨hrow, hK⟩ ⟨rest, hOk⟩
    obtain ⟨a, b, rfl, hab, hbl⟩ := stN_mem l0 x l0.length 0 0 (by omega) (Nat.le_refl _) (by rw [hOk]; simp)
    obtain rfl := hg4 (by omega)
    have z0 : W.heap[w.heap.size]? = some (.cells #[.slice A0 l0.length c0] 22 (0, 0)) := hK.keep _ _ y0 rfl (by omega)
    have z1 : W.heap[w.heap.size + 1]? = some (.cells #[.int .i64 lv, .int .i64 fi, .int .i64 la] 30 (0, 0)) := hK.keep _ _ y1 rfl (by omega)
    have z2 : W.heap[w.heap.size + 1 + 1]? = some (.cells #[.int .i64 0] 23 (0, 0)) := hK.keep _ _ y2 rfl (by omega)
    have z3 : W.heap[w2.heap.size]? = some (.cells #[.slice (some ⟨g, 0, none⟩) l0.length c] 22 (0, 0)) := hK.keep _ _ x0 rfl (by omega)
    have hgc := (row_open hrow (upTo_len _ _ _ _ _) (by omega)).elim fun g' h => (by cases h.1; exact h.2.2 : ∀ o, W.heap[g]? = some o → o.isCells = true)
    have HBW : Aside0 (Below w.heap.size w W) := ⟨HB0.out.trans hK.bel⟩
    obtain ⟨T, hT⟩ : ∃ T, fillN (b - a) a (becF l0 0 fi la ((a : Int), (b : Int))) (upTo l0 0 fi la pre) = T := ⟨_, rfl⟩
    have HT := Aside0.mk hT
    have hT2 : upTo l0 0 fi la (pre ++ [((a : Int), (b : Int))]) = T := by rw [upTo_snoc, setS, show ((b : Int) - (a : Int)).toNat = b - a by omega, Int.toNat_natCast]; exact hT
    have HT2 := Aside0.mk hT2
    have HROW := Aside0.mk hrow
    have HK := Aside0.mk hK
    have HGC := Aside0.mk hgc
    have HAB := Aside0.mk hab
    have HBL := Aside0.mk hbl
    have HG := Aside0.mk (show w.heap.size ≤ g ∧ g ≠ w2.heap.size by omega)
    have k0 := cI z0 0 (v := .slice A0 l0.length c0) rfl
    have k1 := cI z1 1 (v := .int .i64 fi) rfl
    have k2 := cI z1 2 (v := .int .i64 la) rfl
    have k3 := cI z2 0 (v := .int .i64 0) rfl
    have k4 := cI z3 0 (v := .slice (some ⟨g, 0, none⟩) l0.length c) rfl
    have Z3 := Aside0.mk z3
    have hBW := HBW.out.size
    clear hT hT2 hrow hK hOk hgc hab hbl z0 z1 z2 z3 hg1 hg2 hg3 hrow0 x0 x1 y0 y1 y2 hsz0 hw0 hlt0
    by_cases ca : 0 < a
    · obtain ⟨q, hq⟩ : ∃ q : Nat, q + 1 = a := ⟨a - 1, by omega⟩
      have HW : Aside0 (wrap64 ((a : Int) - 1) = (q : Int)) := ⟨by unfold wrap64; have := HL.out; have := HAB.out; have := HBL.out; omega⟩
      obtain ⟨sa, hsa⟩ : ∃ sa, sideF (rd l0 (q : Int)) = sa := ⟨_, rfl⟩
      have HA : Aside0 (aheadF l0 fi ((a : Int), (b : Int)) = sa) := ⟨by unfold aheadF; rw [if_pos (by simp only []; omega)]; simp only []; rw [show (a : Int) - 1 = (q : Int) by omega]; exact hsa⟩
      have HSA : Aside0 (neutral_side.f (rd l0 (q : Int)) = some sa) := ⟨by rw [side_eq, hsa]⟩
      have hq0 : (0 : Int) ≤ (q : Int) := by omega
      have hql : q < l0.length := by have := HBL.out; have := HAB.out; omega
      obtain ⟨ad, e, hxq⟩ := Kd.at_int (Kd.C_below hr0 HBW.out) (q : Int) (by omega) (by omega)
      cases e
      simp only [Int.toNat_natCast] at hxq
      have cab : decide (0 < a) = true := decide_eq_true ca
      have cqb : decide (q < l0.length) = true := decide_eq_true hql
      replace ca := eq_true ca
      replace hql := eq_true hql
      clear hsa
      by_cases cb : b < l0.length
      · obtain ⟨sb, hsb⟩ : ∃ sb, sideF (rd l0 (b : Int)) = sb := ⟨_, rfl⟩
        have HB : Aside0 (behindF l0 la ((a : Int), (b : Int)) = sb) := ⟨by unfold behindF; rw [if_pos (by simp only []; omega)]; exact hsb⟩
        have HSB : Aside0 (neutral_side.f (rd l0 (b : Int)) = some sb) := ⟨by rw [side_eq, hsb]⟩
        have hb0 : (0 : Int) ≤ (b : Int) := by omega
        obtain ⟨ad, e, hxb⟩ := Kd.at_int (Kd.C_below hr0 HBW.out) (b : Int) (by omega) (by omega)
        cases e
        simp only [Int.toNat_natCast] at hxb
        have cbb : decide (b < l0.length) = true := decide_eq_true cb
        replace cb := eq_true cb
        clear hsb
        by_cases ce : sa = sb
        · by_cases c9 : sa = 9
          · have e1 : (sa == sb) = true := beq_iff_eq.2 ce
            have e2 : (sa == 9) = true := beq_iff_eq.2 c9
            have HV : Aside0 (fillN (b - a) a (0) (upTo l0 0 fi la pre) = T) := ⟨by rw [← HT.out]; congr 1; unfold becF; rw [HA.out, HB.out]; rw [if_neg (fun h => h.2 c9)]⟩
            clear HT HA HB ce c9
            gi_wp2
            apply wpIn_one (W' := W.drew)
            case h =>
              gi_region
              all_goals exact ⟨rfl, rfl, rfl⟩
            case k =>
              gi_wp2_with (first | (rw [HW.out]) | (refine ⟨trivial, ?_⟩; gi_at_call 19; refine (CallsIn.inRound _ (callsIn_wide.2 (neutral_side.calls (rd l0 (q : Int)) sa _ HSA.out))).mono ?_; rintro e w8 ⟨rfl, ⟨⟨m8, rfl⟩⟩⟩) | (refine ⟨trivial, ?_⟩; gi_at_call 19; refine (CallsIn.inRound _ (callsIn_wide.2 (neutral_side.calls (rd l0 (b : Int)) sb _ HSB.out))).mono ?_; rintro e w9 ⟨rfl, ⟨⟨m9, rfl⟩⟩⟩))
              gi_loopw [13] (fun p wr => ∃ (i d : Nat) (o : List Int), p = .int .i64 (i : Int) ∧ Aside0 (i + d = b) ∧ Aside0 (o.length = l0.length) ∧ Aside0 (fillN d i (0) o = T) ∧ Aside0 (Row wr base (.slice (some ⟨g, 0, none⟩) l0.length c) o) ∧ Aside0 (KA w.heap.size g W wr))
                (fun p _ => b - (intOf p).toNat)
              case atStart => exact ⟨a, b - a, _, rfl, ⟨by have := HAB.out; omega⟩, ⟨upTo_len _ _ _ _ _⟩, HV, ⟨by repeat (first | exact HROW.out | apply Kd.R_drewN | apply Kd.R_drew)⟩, ⟨by repeat (first | exact KA.refl _ _ _ | apply KA.drewN | apply KA.drew)⟩⟩
              case round =>
                clear HV
                obtain ⟨i, d, o, rfl, HI, HO, HX, HR2, HK2⟩ := hrel
                have r0 := row_at HR2.out
                by_cases ci : i < b
                · obtain ⟨d, rfl⟩ : ∃ q, d = q + 1 := ⟨d - 1, by have := HI.out; omega⟩
                  have hil : i < l0.length := by have := HBL.out; omega
                  have r1 := (r0 i hil).1
                  have r2 := (r0 i hil).2
                  have k5 := cI (HK2.out.keep _ _ Z3.out (fun e => HG.out.2 e.symm)) 0 (v := .slice (some ⟨g, 0, none⟩) l0.length c) rfl
                  have cb : decide (i < b) = true := decide_eq_true ci
                  have hi0 : (0 : Int) ≤ (i : Int) := by omega
                  have HWR : Aside0 (wrap64 ((i : Int) + 1) = ((i + 1 : Nat) : Int)) := ⟨by unfold wrap64; have := HL.out; omega⟩
                  replace ci := eq_true ci
                  replace hil := eq_true hil
                  clear r0
                  gi_wp2
                  go_roundw
                  case rel =>
                    have hp := row_put HR2.out HK2.out HG.out.1 i (0)
                    exact ⟨i + 1, d, o.set i (0), by rw [HWR.out], ⟨by have := HI.out; omega⟩, ⟨by rw [List.length_set]; exact HO.out⟩, ⟨HX.out⟩, ⟨hp.1⟩, ⟨hp.2⟩⟩
                  case measure =>
                    rw [HWR.out]
                    have := HI.out
                    simp [intOf]
                    omega
                · have cb : decide (i < b) = false := decide_eq_false ci
                  obtain rfl : d = 0 := by have := HI.out; omega
                  replace ci := eq_false ci
                  clear r0
                  gi_wp2
                  refine ⟨HK2.out.from HGC.out, HK2.out.kg, ?_, HK.out.t HK2.out.kg⟩
                  rw [HT2.out, ← HX.out]
                  exact HR2.out
          · have e1 : (sa == sb) = true := beq_iff_eq.2 ce
            have e2 : (sa == 9) = false := beq_eq_false_iff_ne.2 c9
            have HV : Aside0 (fillN (b - a) a (sa) (upTo l0 0 fi la pre) = T) := ⟨by rw [← HT.out]; congr 1; unfold becF; rw [HA.out, HB.out]; rw [if_pos ⟨ce, c9⟩]⟩
            clear HT HA HB ce c9
            gi_wp2
            apply wpIn_one (W' := W.drew)
            case h =>
              gi_region
              all_goals exact ⟨rfl, rfl, rfl⟩
            case k =>
              gi_wp2_with (first | (rw [HW.out]) | (refine ⟨trivial, ?_⟩; gi_at_call 19; refine (CallsIn.inRound _ (callsIn_wide.2 (neutral_side.calls (rd l0 (q : Int)) sa _ HSA.out))).mono ?_; rintro e w8 ⟨rfl, ⟨⟨m8, rfl⟩⟩⟩) | (refine ⟨trivial, ?_⟩; gi_at_call 19; refine (CallsIn.inRound _ (callsIn_wide.2 (neutral_side.calls (rd l0 (b : Int)) sb _ HSB.out))).mono ?_; rintro e w9 ⟨rfl, ⟨⟨m9, rfl⟩⟩⟩))
              gi_loopw [13] (fun p wr => ∃ (i d : Nat) (o : List Int), p = .int .i64 (i : Int) ∧ Aside0 (i + d = b) ∧ Aside0 (o.length = l0.length) ∧ Aside0 (fillN d i (sa) o = T) ∧ Aside0 (Row wr base (.slice (some ⟨g, 0, none⟩) l0.length c) o) ∧ Aside0 (KA w.heap.size g W wr))
                (fun p _ => b - (intOf p).toNat)
              case atStart => exact ⟨a, b - a, _, rfl, ⟨by have := HAB.out; omega⟩, ⟨upTo_len _ _ _ _ _⟩, HV, ⟨by repeat (first | exact HROW.out | apply Kd.R_drewN | apply Kd.R_drew)⟩, ⟨by repeat (first | exact KA.refl _ _ _ | apply KA.drewN | apply KA.drew)⟩⟩
              case round =>
                clear HV
                obtain ⟨i, d, o, rfl, HI, HO, HX, HR2, HK2⟩ := hrel
                have r0 := row_at HR2.out
                by_cases ci : i < b
                · obtain ⟨d, rfl⟩ : ∃ q, d = q + 1 := ⟨d - 1, by have := HI.out; omega⟩
                  have hil : i < l0.length := by have := HBL.out; omega
                  have r1 := (r0 i hil).1
                  have r2 := (r0 i hil).2
                  have k5 := cI (HK2.out.keep _ _ Z3.out (fun e => HG.out.2 e.symm)) 0 (v := .slice (some ⟨g, 0, none⟩) l0.length c) rfl
                  have cb : decide (i < b) = true := decide_eq_true ci
                  have hi0 : (0 : Int) ≤ (i : Int) := by omega
                  have HWR : Aside0 (wrap64 ((i : Int) + 1) = ((i + 1 : Nat) : Int)) := ⟨by unfold wrap64; have := HL.out; omega⟩
                  replace ci := eq_true ci
                  replace hil := eq_true hil
                  clear r0
                  gi_wp2
                  go_roundw
                  case rel =>
                    have hp := row_put HR2.out HK2.out HG.out.1 i (sa)
                    exact ⟨i + 1, d, o.set i (sa), by rw [HWR.out], ⟨by have := HI.out; omega⟩, ⟨by rw [List.length_set]; exact HO.out⟩, ⟨HX.out⟩, ⟨hp.1⟩, ⟨hp.2⟩⟩
                  case measure =>
                    rw [HWR.out]
                    have := HI.out
                    simp [intOf]
                    omega
                · have cb : decide (i < b) = false := decide_eq_false ci
                  obtain rfl : d = 0 := by have := HI.out; omega
                  replace ci := eq_false ci
                  clear r0
                  gi_wp2
                  refine ⟨HK2.out.from HGC.out, HK2.out.kg, ?_, HK.out.t HK2.out.kg⟩
                  rw [HT2.out, ← HX.out]
                  exact HR2.out
        · have e1 : (sa == sb) = false := beq_eq_false_iff_ne.2 ce
          have HV : Aside0 (fillN (b - a) a (0) (upTo l0 0 fi la pre) = T) := ⟨by rw [← HT.out]; congr 1; unfold becF; rw [HA.out, HB.out]; rw [if_neg (fun h => ce h.1)]⟩
          clear HT HA HB ce
          gi_wp2
          apply wpIn_one (W' := W.drew)
          case h =>
            gi_region
            all_goals exact ⟨rfl, rfl, rfl⟩
          case k =>
            gi_wp2_with (first | (rw [HW.out]) | (refine ⟨trivial, ?_⟩; gi_at_call 19; refine (CallsIn.inRound _ (callsIn_wide.2 (neutral_side.calls (rd l0 (q : Int)) sa _ HSA.out))).mono ?_; rintro e w8 ⟨rfl, ⟨⟨m8, rfl⟩⟩⟩) | (refine ⟨trivial, ?_⟩; gi_at_call 19; refine (CallsIn.inRound _ (callsIn_wide.2 (neutral_side.calls (rd l0 (b : Int)) sb _ HSB.out))).mono ?_; rintro e w9 ⟨rfl, ⟨⟨m9, rfl⟩⟩⟩))
            gi_loopw [13] (fun p wr => ∃ (i d : Nat) (o : List Int), p = .int .i64 (i : Int) ∧ Aside0 (i + d = b) ∧ Aside0 (o.length = l0.length) ∧ Aside0 (fillN d i (0) o = T) ∧ Aside0 (Row wr base (.slice (some ⟨g, 0, none⟩) l0.length c) o) ∧ Aside0 (KA w.heap.size g W wr))
              (fun p _ => b - (intOf p).toNat)
            case atStart => exact ⟨a, b - a, _, rfl, ⟨by have := HAB.out; omega⟩, ⟨upTo_len _ _ _ _ _⟩, HV, ⟨by repeat (first | exact HROW.out | apply Kd.R_drewN | apply Kd.R_drew)⟩, ⟨by repeat (first | exact KA.refl _ _ _ | apply KA.drewN | apply KA.drew)⟩⟩
            case round =>
              clear HV
              obtain ⟨i, d, o, rfl, HI, HO, HX, HR2, HK2⟩ := hrel
              have r0 := row_at HR2.out
              by_cases ci : i < b
              · obtain ⟨d, rfl⟩ : ∃ q, d = q + 1 := ⟨d - 1, by have := HI.out; omega⟩
                have hil : i < l0.length := by have := HBL.out; omega
                have r1 := (r0 i hil).1
                have r2 := (r0 i hil).2
                have k5 := cI (HK2.out.keep _ _ Z3.out (fun e => HG.out.2 e.symm)) 0 (v := .slice (some ⟨g, 0, none⟩) l0.length c) rfl
                have cb : decide (i < b) = true := decide_eq_true ci
                have hi0 : (0 : Int) ≤ (i : Int) := by omega
                have HWR : Aside0 (wrap64 ((i : Int) + 1) = ((i + 1 : Nat) : Int)) := ⟨by unfold wrap64; have := HL.out; omega⟩
                replace ci := eq_true ci
                replace hil := eq_true hil
                clear r0
                gi_wp2
                go_roundw
                case rel =>
                  have hp := row_put HR2.out HK2.out HG.out.1 i (0)
                  exact ⟨i + 1, d, o.set i (0), by rw [HWR.out], ⟨by have := HI.out; omega⟩, ⟨by rw [List.length_set]; exact HO.out⟩, ⟨HX.out⟩, ⟨hp.1⟩, ⟨hp.2⟩⟩
                case measure =>
                  rw [HWR.out]
                  have := HI.out
                  simp [intOf]
                  omega
              · have cb : decide (i < b) = false := decide_eq_false ci
                obtain rfl : d = 0 := by have := HI.out; omega
                replace ci := eq_false ci
                clear r0
                gi_wp2
                refine ⟨HK2.out.from HGC.out, HK2.out.kg, ?_, HK.out.t HK2.out.kg⟩
                rw [HT2.out, ← HX.out]
                exact HR2.out
      · have HB : Aside0 (behindF l0 la ((a : Int), (b : Int)) = la) := ⟨by unfold behindF; rw [if_neg (by simp only []; omega)]⟩
        have cbb : decide (b < l0.length) = false := decide_eq_false cb
        replace cb := eq_false cb
        by_cases ce : sa = la
        · by_cases c9 : sa = 9
          · have e1 : (sa == la) = true := beq_iff_eq.2 ce
            have e2 : (sa == 9) = true := beq_iff_eq.2 c9
            have HV : Aside0 (fillN (b - a) a (0) (upTo l0 0 fi la pre) = T) := ⟨by rw [← HT.out]; congr 1; unfold becF; rw [HA.out, HB.out]; rw [if_neg (fun h => h.2 c9)]⟩
            clear HT HA HB ce c9
            gi_wp2
            apply wpIn_one (W' := W.drew)
            case h =>
              gi_region
              all_goals exact ⟨rfl, rfl, rfl⟩
            case k =>
              gi_wp2_with (first | (rw [HW.out]) | (refine ⟨trivial, ?_⟩; gi_at_call 19; refine (CallsIn.inRound _ (callsIn_wide.2 (neutral_side.calls (rd l0 (q : Int)) sa _ HSA.out))).mono ?_; rintro e w8 ⟨rfl, ⟨⟨m8, rfl⟩⟩⟩))
              gi_loopw [13] (fun p wr => ∃ (i d : Nat) (o : List Int), p = .int .i64 (i : Int) ∧ Aside0 (i + d = b) ∧ Aside0 (o.length = l0.length) ∧ Aside0 (fillN d i (0) o = T) ∧ Aside0 (Row wr base (.slice (some ⟨g, 0, none⟩) l0.length c) o) ∧ Aside0 (KA w.heap.size g W wr))
                (fun p _ => b - (intOf p).toNat)
              case atStart => exact ⟨a, b - a, _, rfl, ⟨by have := HAB.out; omega⟩, ⟨upTo_len _ _ _ _ _⟩, HV, ⟨by repeat (first | exact HROW.out | apply Kd.R_drewN | apply Kd.R_drew)⟩, ⟨by repeat (first | exact KA.refl _ _ _ | apply KA.drewN | apply KA.drew)⟩⟩
              case round =>
                clear HV
                obtain ⟨i, d, o, rfl, HI, HO, HX, HR2, HK2⟩ := hrel
                have r0 := row_at HR2.out
                by_cases ci : i < b
                · obtain ⟨d, rfl⟩ : ∃ q, d = q + 1 := ⟨d - 1, by have := HI.out; omega⟩
                  have hil : i < l0.length := by have := HBL.out; omega
                  have r1 := (r0 i hil).1
                  have r2 := (r0 i hil).2
                  have k5 := cI (HK2.out.keep _ _ Z3.out (fun e => HG.out.2 e.symm)) 0 (v := .slice (some ⟨g, 0, none⟩) l0.length c) rfl
                  have cb : decide (i < b) = true := decide_eq_true ci
                  have hi0 : (0 : Int) ≤ (i : Int) := by omega
                  have HWR : Aside0 (wrap64 ((i : Int) + 1) = ((i + 1 : Nat) : Int)) := ⟨by unfold wrap64; have := HL.out; omega⟩
                  replace ci := eq_true ci
                  replace hil := eq_true hil
                  clear r0
                  gi_wp2
                  go_roundw
                  case rel =>
                    have hp := row_put HR2.out HK2.out HG.out.1 i (0)
                    exact ⟨i + 1, d, o.set i (0), by rw [HWR.out], ⟨by have := HI.out; omega⟩, ⟨by rw [List.length_set]; exact HO.out⟩, ⟨HX.out⟩, ⟨hp.1⟩, ⟨hp.2⟩⟩
                  case measure =>
                    rw [HWR.out]
                    have := HI.out
                    simp [intOf]
                    omega
                · have cb : decide (i < b) = false := decide_eq_false ci
                  obtain rfl : d = 0 := by have := HI.out; omega
                  replace ci := eq_false ci
                  clear r0
                  gi_wp2
                  refine ⟨HK2.out.from HGC.out, HK2.out.kg, ?_, HK.out.t HK2.out.kg⟩
                  rw [HT2.out, ← HX.out]
                  exact HR2.out
          · have e1 : (sa == la) = true := beq_iff_eq.2 ce
            have e2 : (sa == 9) = false := beq_eq_false_iff_ne.2 c9
            have HV : Aside0 (fillN (b - a) a (sa) (upTo l0 0 fi la pre) = T) := ⟨by rw [← HT.out]; congr 1; unfold becF; rw [HA.out, HB.out]; rw [if_pos ⟨ce, c9⟩]⟩
            clear HT HA HB ce c9
            gi_wp2
            apply wpIn_one (W' := W.drew)
            case h =>
              gi_region
              all_goals exact ⟨rfl, rfl, rfl⟩
            case k =>
              gi_wp2_with (first | (rw [HW.out]) | (refine ⟨trivial, ?_⟩; gi_at_call 19; refine (CallsIn.inRound _ (callsIn_wide.2 (neutral_side.calls (rd l0 (q : Int)) sa _ HSA.out))).mono ?_; rintro e w8 ⟨rfl, ⟨⟨m8, rfl⟩⟩⟩))
              gi_loopw [13] (fun p wr => ∃ (i d : Nat) (o : List Int), p = .int .i64 (i : Int) ∧ Aside0 (i + d = b) ∧ Aside0 (o.length = l0.length) ∧ Aside0 (fillN d i (sa) o = T) ∧ Aside0 (Row wr base (.slice (some ⟨g, 0, none⟩) l0.length c) o) ∧ Aside0 (KA w.heap.size g W wr))
                (fun p _ => b - (intOf p).toNat)
              case atStart => exact ⟨a, b - a, _, rfl, ⟨by have := HAB.out; omega⟩, ⟨upTo_len _ _ _ _ _⟩, HV, ⟨by repeat (first | exact HROW.out | apply Kd.R_drewN | apply Kd.R_drew)⟩, ⟨by repeat (first | exact KA.refl _ _ _ | apply KA.drewN | apply KA.drew)⟩⟩
              case round =>
                clear HV
                obtain ⟨i, d, o, rfl, HI, HO, HX, HR2, HK2⟩ := hrel
                have r0 := row_at HR2.out
                by_cases ci : i < b
                · obtain ⟨d, rfl⟩ : ∃ q, d = q + 1 := ⟨d - 1, by have := HI.out; omega⟩
                  have hil : i < l0.length := by have := HBL.out; omega
                  have r1 := (r0 i hil).1
                  have r2 := (r0 i hil).2
                  have k5 := cI (HK2.out.keep _ _ Z3.out (fun e => HG.out.2 e.symm)) 0 (v := .slice (some ⟨g, 0, none⟩) l0.length c) rfl
                  have cb : decide (i < b) = true := decide_eq_true ci
                  have hi0 : (0 : Int) ≤ (i : Int) := by omega
                  have HWR : Aside0 (wrap64 ((i : Int) + 1) = ((i + 1 : Nat) : Int)) := ⟨by unfold wrap64; have := HL.out; omega⟩
                  replace ci := eq_true ci
                  replace hil := eq_true hil
                  clear r0
                  gi_wp2
                  go_roundw
                  case rel =>
                    have hp := row_put HR2.out HK2.out HG.out.1 i (sa)
                    exact ⟨i + 1, d, o.set i (sa), by rw [HWR.out], ⟨by have := HI.out; omega⟩, ⟨by rw [List.length_set]; exact HO.out⟩, ⟨HX.out⟩, ⟨hp.1⟩, ⟨hp.2⟩⟩
                  case measure =>
                    rw [HWR.out]
                    have := HI.out
                    simp [intOf]
                    omega
                · have cb : decide (i < b) = false := decide_eq_false ci
                  obtain rfl : d = 0 := by have := HI.out; omega
                  replace ci := eq_false ci
                  clear r0
                  gi_wp2
                  refine ⟨HK2.out.from HGC.out, HK2.out.kg, ?_, HK.out.t HK2.out.kg⟩
                  rw [HT2.out, ← HX.out]
                  exact HR2.out
        · have e1 : (sa == la) = false := beq_eq_false_iff_ne.2 ce
          have HV : Aside0 (fillN (b - a) a (0) (upTo l0 0 fi la pre) = T) := ⟨by rw [← HT.out]; congr 1; unfold becF; rw [HA.out, HB.out]; rw [if_neg (fun h => ce h.1)]⟩
          clear HT HA HB ce
          gi_wp2
          apply wpIn_one (W' := W.drew)
          case h =>
            gi_region
            all_goals exact ⟨rfl, rfl, rfl⟩
          case k =>
            gi_wp2_with (first | (rw [HW.out]) | (refine ⟨trivial, ?_⟩; gi_at_call 19; refine (CallsIn.inRound _ (callsIn_wide.2 (neutral_side.calls (rd l0 (q : Int)) sa _ HSA.out))).mono ?_; rintro e w8 ⟨rfl, ⟨⟨m8, rfl⟩⟩⟩))
            gi_loopw [13] (fun p wr => ∃ (i d : Nat) (o : List Int), p = .int .i64 (i : Int) ∧ Aside0 (i + d = b) ∧ Aside0 (o.length = l0.length) ∧ Aside0 (fillN d i (0) o = T) ∧ Aside0 (Row wr base (.slice (some ⟨g, 0, none⟩) l0.length c) o) ∧ Aside0 (KA w.heap.size g W wr))
              (fun p _ => b - (intOf p).toNat)
            case atStart => exact ⟨a, b - a, _, rfl, ⟨by have := HAB.out; omega⟩, ⟨upTo_len _ _ _ _ _⟩, HV, ⟨by repeat (first | exact HROW.out | apply Kd.R_drewN | apply Kd.R_drew)⟩, ⟨by repeat (first | exact KA.refl _ _ _ | apply KA.drewN | apply KA.drew)⟩⟩
            case round =>
              clear HV
              obtain ⟨i, d, o, rfl, HI, HO, HX, HR2, HK2⟩ := hrel
              have r0 := row_at HR2.out
              by_cases ci : i < b
              · obtain ⟨d, rfl⟩ : ∃ q, d = q + 1 := ⟨d - 1, by have := HI.out; omega⟩
                have hil : i < l0.length := by have := HBL.out; omega
                have r1 := (r0 i hil).1
                have r2 := (r0 i hil).2
                have k5 := cI (HK2.out.keep _ _ Z3.out (fun e => HG.out.2 e.symm)) 0 (v := .slice (some ⟨g, 0, none⟩) l0.length c) rfl
                have cb : decide (i < b) = true := decide_eq_true ci
                have hi0 : (0 : Int) ≤ (i : Int) := by omega
                have HWR : Aside0 (wrap64 ((i : Int) + 1) = ((i + 1 : Nat) : Int)) := ⟨by unfold wrap64; have := HL.out; omega⟩
                replace ci := eq_true ci
                replace hil := eq_true hil
                clear r0
                gi_wp2
                go_roundw
                case rel =>
                  have hp := row_put HR2.out HK2.out HG.out.1 i (0)
                  exact ⟨i + 1, d, o.set i (0), by rw [HWR.out], ⟨by have := HI.out; omega⟩, ⟨by rw [List.length_set]; exact HO.out⟩, ⟨HX.out⟩, ⟨hp.1⟩, ⟨hp.2⟩⟩
                case measure =>
                  rw [HWR.out]
                  have := HI.out
                  simp [intOf]
                  omega
              · have cb : decide (i < b) = false := decide_eq_false ci
                obtain rfl : d = 0 := by have := HI.out; omega
                replace ci := eq_false ci
                clear r0
                gi_wp2
                refine ⟨HK2.out.from HGC.out, HK2.out.kg, ?_, HK.out.t HK2.out.kg⟩
                rw [HT2.out, ← HX.out]
                exact HR2.out
    · have HA : Aside0 (aheadF l0 fi ((a : Int), (b : Int)) = fi) := ⟨by unfold aheadF; rw [if_neg (by simp only []; omega)]⟩
      have cab : decide (0 < a) = false := decide_eq_false ca
      replace ca := eq_false ca
      by_cases cb : b < l0.length
      · obtain ⟨sb, hsb⟩ : ∃ sb, sideF (rd l0 (b : Int)) = sb := ⟨_, rfl⟩
        have HB : Aside0 (behindF l0 la ((a : Int), (b : Int)) = sb) := ⟨by unfold behindF; rw [if_pos (by simp only []; omega)]; exact hsb⟩
        have HSB : Aside0 (neutral_side.f (rd l0 (b : Int)) = some sb) := ⟨by rw [side_eq, hsb]⟩
        have hb0 : (0 : Int) ≤ (b : Int) := by omega
        obtain ⟨ad, e, hxb⟩ := Kd.at_int (Kd.C_below hr0 HBW.out) (b : Int) (by omega) (by omega)
        cases e
        simp only [Int.toNat_natCast] at hxb
        have cbb : decide (b < l0.length) = true := decide_eq_true cb
        replace cb := eq_true cb
        clear hsb
        by_cases ce : fi = sb
        · have c9 : ¬ fi = 9 := by have := H3.out; omega
          have e1 : (fi == sb) = true := beq_iff_eq.2 ce
          have e2 : (fi == 9) = false := beq_eq_false_iff_ne.2 c9
          have HV : Aside0 (fillN (b - a) a (fi) (upTo l0 0 fi la pre) = T) := ⟨by rw [← HT.out]; congr 1; unfold becF; rw [HA.out, HB.out]; rw [if_pos ⟨ce, c9⟩]⟩
          clear HT HA HB ce c9
          gi_wp2
          apply wpIn_one (W' := W.drew)
          case h =>
            gi_region
            all_goals exact ⟨rfl, rfl, rfl⟩
          case k =>
            gi_wp2_with (first | (refine ⟨trivial, ?_⟩; gi_at_call 19; refine (CallsIn.inRound _ (callsIn_wide.2 (neutral_side.calls (rd l0 (b : Int)) sb _ HSB.out))).mono ?_; rintro e w9 ⟨rfl, ⟨⟨m9, rfl⟩⟩⟩))
            gi_loopw [13] (fun p wr => ∃ (i d : Nat) (o : List Int), p = .int .i64 (i : Int) ∧ Aside0 (i + d = b) ∧ Aside0 (o.length = l0.length) ∧ Aside0 (fillN d i (fi) o = T) ∧ Aside0 (Row wr base (.slice (some ⟨g, 0, none⟩) l0.length c) o) ∧ Aside0 (KA w.heap.size g W wr))
              (fun p _ => b - (intOf p).toNat)
            case atStart => exact ⟨a, b - a, _, rfl, ⟨by have := HAB.out; omega⟩, ⟨upTo_len _ _ _ _ _⟩, HV, ⟨by repeat (first | exact HROW.out | apply Kd.R_drewN | apply Kd.R_drew)⟩, ⟨by repeat (first | exact KA.refl _ _ _ | apply KA.drewN | apply KA.drew)⟩⟩
            case round =>
              clear HV
              obtain ⟨i, d, o, rfl, HI, HO, HX, HR2, HK2⟩ := hrel
              have r0 := row_at HR2.out
              by_cases ci : i < b
              · obtain ⟨d, rfl⟩ : ∃ q, d = q + 1 := ⟨d - 1, by have := HI.out; omega⟩
                have hil : i < l0.length := by have := HBL.out; omega
                have r1 := (r0 i hil).1
                have r2 := (r0 i hil).2
                have k5 := cI (HK2.out.keep _ _ Z3.out (fun e => HG.out.2 e.symm)) 0 (v := .slice (some ⟨g, 0, none⟩) l0.length c) rfl
                have cb : decide (i < b) = true := decide_eq_true ci
                have hi0 : (0 : Int) ≤ (i : Int) := by omega
                have HWR : Aside0 (wrap64 ((i : Int) + 1) = ((i + 1 : Nat) : Int)) := ⟨by unfold wrap64; have := HL.out; omega⟩
                replace ci := eq_true ci
                replace hil := eq_true hil
                clear r0
                gi_wp2
                go_roundw
                case rel =>
                  have hp := row_put HR2.out HK2.out HG.out.1 i (fi)
                  exact ⟨i + 1, d, o.set i (fi), by rw [HWR.out], ⟨by have := HI.out; omega⟩, ⟨by rw [List.length_set]; exact HO.out⟩, ⟨HX.out⟩, ⟨hp.1⟩, ⟨hp.2⟩⟩
                case measure =>
                  rw [HWR.out]
                  have := HI.out
                  simp [intOf]
                  omega
              · have cb : decide (i < b) = false := decide_eq_false ci
                obtain rfl : d = 0 := by have := HI.out; omega
                replace ci := eq_false ci
                clear r0
                gi_wp2
                refine ⟨HK2.out.from HGC.out, HK2.out.kg, ?_, HK.out.t HK2.out.kg⟩
                rw [HT2.out, ← HX.out]
                exact HR2.out
        · have e1 : (fi == sb) = false := beq_eq_false_iff_ne.2 ce
          have HV : Aside0 (fillN (b - a) a (0) (upTo l0 0 fi la pre) = T) := ⟨by rw [← HT.out]; congr 1; unfold becF; rw [HA.out, HB.out]; rw [if_neg (fun h => ce h.1)]⟩
          clear HT HA HB ce
          gi_wp2
          apply wpIn_one (W' := W.drew)
          case h =>
            gi_region
            all_goals exact ⟨rfl, rfl, rfl⟩
          case k =>
            gi_wp2_with (first | (refine ⟨trivial, ?_⟩; gi_at_call 19; refine (CallsIn.inRound _ (callsIn_wide.2 (neutral_side.calls (rd l0 (b : Int)) sb _ HSB.out))).mono ?_; rintro e w9 ⟨rfl, ⟨⟨m9, rfl⟩⟩⟩))
            gi_loopw [13] (fun p wr => ∃ (i d : Nat) (o : List Int), p = .int .i64 (i : Int) ∧ Aside0 (i + d = b) ∧ Aside0 (o.length = l0.length) ∧ Aside0 (fillN d i (0) o = T) ∧ Aside0 (Row wr base (.slice (some ⟨g, 0, none⟩) l0.length c) o) ∧ Aside0 (KA w.heap.size g W wr))
              (fun p _ => b - (intOf p).toNat)
            case atStart => exact ⟨a, b - a, _, rfl, ⟨by have := HAB.out; omega⟩, ⟨upTo_len _ _ _ _ _⟩, HV, ⟨by repeat (first | exact HROW.out | apply Kd.R_drewN | apply Kd.R_drew)⟩, ⟨by repeat (first | exact KA.refl _ _ _ | apply KA.drewN | apply KA.drew)⟩⟩
            case round =>
              clear HV
              obtain ⟨i, d, o, rfl, HI, HO, HX, HR2, HK2⟩ := hrel
              have r0 := row_at HR2.out
              by_cases ci : i < b
              · obtain ⟨d, rfl⟩ : ∃ q, d = q + 1 := ⟨d - 1, by have := HI.out; omega⟩
                have hil : i < l0.length := by have := HBL.out; omega
                have r1 := (r0 i hil).1
                have r2 := (r0 i hil).2
                have k5 := cI (HK2.out.keep _ _ Z3.out (fun e => HG.out.2 e.symm)) 0 (v := .slice (some ⟨g, 0, none⟩) l0.length c) rfl
                have cb : decide (i < b) = true := decide_eq_true ci
                have hi0 : (0 : Int) ≤ (i : Int) := by omega
                have HWR : Aside0 (wrap64 ((i : Int) + 1) = ((i + 1 : Nat) : Int)) := ⟨by unfold wrap64; have := HL.out; omega⟩
                replace ci := eq_true ci
                replace hil := eq_true hil
                clear r0
                gi_wp2
                go_roundw
                case rel =>
                  have hp := row_put HR2.out HK2.out HG.out.1 i (0)
                  exact ⟨i + 1, d, o.set i (0), by rw [HWR.out], ⟨by have := HI.out; omega⟩, ⟨by rw [List.length_set]; exact HO.out⟩, ⟨HX.out⟩, ⟨hp.1⟩, ⟨hp.2⟩⟩
                case measure =>
                  rw [HWR.out]
                  have := HI.out
                  simp [intOf]
                  omega
              · have cb : decide (i < b) = false := decide_eq_false ci
                obtain rfl : d = 0 := by have := HI.out; omega
                replace ci := eq_false ci
                clear r0
                gi_wp2
                refine ⟨HK2.out.from HGC.out, HK2.out.kg, ?_, HK.out.t HK2.out.kg⟩
                rw [HT2.out, ← HX.out]
                exact HR2.out
      · have HB : Aside0 (behindF l0 la ((a : Int), (b : Int)) = la) := ⟨by unfold behindF; rw [if_neg (by simp only []; omega)]⟩
        have cbb : decide (b < l0.length) = false := decide_eq_false cb
        replace cb := eq_false cb
        by_cases ce : fi = la
        · have c9 : ¬ fi = 9 := by have := H3.out; omega
          have e1 : (fi == la) = true := beq_iff_eq.2 ce
          have e2 : (fi == 9) = false := beq_eq_false_iff_ne.2 c9
          have HV : Aside0 (fillN (b - a) a (fi) (upTo l0 0 fi la pre) = T) := ⟨by rw [← HT.out]; congr 1; unfold becF; rw [HA.out, HB.out]; rw [if_pos ⟨ce, c9⟩]⟩
          clear HT HA HB ce c9
          gi_wp2
          apply wpIn_one (W' := W.drew)
          case h =>
            gi_region
            all_goals exact ⟨rfl, rfl, rfl⟩
          case k =>
            gi_wp2
            gi_loopw [13] (fun p wr => ∃ (i d : Nat) (o : List Int), p = .int .i64 (i : Int) ∧ Aside0 (i + d = b) ∧ Aside0 (o.length = l0.length) ∧ Aside0 (fillN d i (fi) o = T) ∧ Aside0 (Row wr base (.slice (some ⟨g, 0, none⟩) l0.length c) o) ∧ Aside0 (KA w.heap.size g W wr))
              (fun p _ => b - (intOf p).toNat)
            case atStart => exact ⟨a, b - a, _, rfl, ⟨by have := HAB.out; omega⟩, ⟨upTo_len _ _ _ _ _⟩, HV, ⟨by repeat (first | exact HROW.out | apply Kd.R_drewN | apply Kd.R_drew)⟩, ⟨by repeat (first | exact KA.refl _ _ _ | apply KA.drewN | apply KA.drew)⟩⟩
            case round =>
              clear HV
              obtain ⟨i, d, o, rfl, HI, HO, HX, HR2, HK2⟩ := hrel
              have r0 := row_at HR2.out
              by_cases ci : i < b
              · obtain ⟨d, rfl⟩ : ∃ q, d = q + 1 := ⟨d - 1, by have := HI.out; omega⟩
                have hil : i < l0.length := by have := HBL.out; omega
                have r1 := (r0 i hil).1
                have r2 := (r0 i hil).2
                have k5 := cI (HK2.out.keep _ _ Z3.out (fun e => HG.out.2 e.symm)) 0 (v := .slice (some ⟨g, 0, none⟩) l0.length c) rfl
                have cb : decide (i < b) = true := decide_eq_true ci
                have hi0 : (0 : Int) ≤ (i : Int) := by omega
                have HWR : Aside0 (wrap64 ((i : Int) + 1) = ((i + 1 : Nat) : Int)) := ⟨by unfold wrap64; have := HL.out; omega⟩
                replace ci := eq_true ci
                replace hil := eq_true hil
                clear r0
                gi_wp2
                go_roundw
                case rel =>
                  have hp := row_put HR2.out HK2.out HG.out.1 i (fi)
                  exact ⟨i + 1, d, o.set i (fi), by rw [HWR.out], ⟨by have := HI.out; omega⟩, ⟨by rw [List.length_set]; exact HO.out⟩, ⟨HX.out⟩, ⟨hp.1⟩, ⟨hp.2⟩⟩
                case measure =>
                  rw [HWR.out]
                  have := HI.out
                  simp [intOf]
                  omega
              · have cb : decide (i < b) = false := decide_eq_false ci
                obtain rfl : d = 0 := by have := HI.out; omega
                replace ci := eq_false ci
                clear r0
                gi_wp2
                refine ⟨HK2.out.from HGC.out, HK2.out.kg, ?_, HK.out.t HK2.out.kg⟩
                rw [HT2.out, ← HX.out]
                exact HR2.out
        · have e1 : (fi == la) = false := beq_eq_false_iff_ne.2 ce
          have HV : Aside0 (fillN (b - a) a (0) (upTo l0 0 fi la pre) = T) := ⟨by rw [← HT.out]; congr 1; unfold becF; rw [HA.out, HB.out]; rw [if_neg (fun h => ce h.1)]⟩
          clear HT HA HB ce
          gi_wp2
          apply wpIn_one (W' := W.drew)
          case h =>
            gi_region
            all_goals exact ⟨rfl, rfl, rfl⟩
          case k =>
            gi_wp2
            gi_loopw [13] (fun p wr => ∃ (i d : Nat) (o : List Int), p = .int .i64 (i : Int) ∧ Aside0 (i + d = b) ∧ Aside0 (o.length = l0.length) ∧ Aside0 (fillN d i (0) o = T) ∧ Aside0 (Row wr base (.slice (some ⟨g, 0, none⟩) l0.length c) o) ∧ Aside0 (KA w.heap.size g W wr))
              (fun p _ => b - (intOf p).toNat)
            case atStart => exact ⟨a, b - a, _, rfl, ⟨by have := HAB.out; omega⟩, ⟨upTo_len _ _ _ _ _⟩, HV, ⟨by repeat (first | exact HROW.out | apply Kd.R_drewN | apply Kd.R_drew)⟩, ⟨by repeat (first | exact KA.refl _ _ _ | apply KA.drewN | apply KA.drew)⟩⟩
            case round =>
              clear HV
              obtain ⟨i, d, o, rfl, HI, HO, HX, HR2, HK2⟩ := hrel
              have r0 := row_at HR2.out
              by_cases ci : i < b
              · obtain ⟨d, rfl⟩ : ∃ q, d = q + 1 := ⟨d - 1, by have := HI.out; omega⟩
                have hil : i < l0.length := by have := HBL.out; omega
                have r1 := (r0 i hil).1
                have r2 := (r0 i hil).2
                have k5 := cI (HK2.out.keep _ _ Z3.out (fun e => HG.out.2 e.symm)) 0 (v := .slice (some ⟨g, 0, none⟩) l0.length c) rfl
                have cb : decide (i < b) = true := decide_eq_true ci
                have hi0 : (0 : Int) ≤ (i : Int) := by omega
                have HWR : Aside0 (wrap64 ((i : Int) + 1) = ((i + 1 : Nat) : Int)) := ⟨by unfold wrap64; have := HL.out; omega⟩
                replace ci := eq_true ci
                replace hil := eq_true hil
                clear r0
                gi_wp2
                go_roundw
                case rel =>
                  have hp := row_put HR2.out HK2.out HG.out.1 i (0)
                  exact ⟨i + 1, d, o.set i (0), by rw [HWR.out], ⟨by have := HI.out; omega⟩, ⟨by rw [List.length_set]; exact HO.out⟩, ⟨HX.out⟩, ⟨hp.1⟩, ⟨hp.2⟩⟩
                case measure =>
                  rw [HWR.out]
                  have := HI.out
                  simp [intOf]
                  omega
              · have cb : decide (i < b) = false := decide_eq_false ci
                obtain rfl : d = 0 := by have := HI.out; omega
                replace ci := eq_false ci
                clear r0
                gi_wp2
                refine ⟨HK2.out.from HGC.out, HK2.out.kg, ?_, HK.out.t HK2.out.kg⟩
                rw [HT2.out, ← HX.out]
                exact HR2.out
  case done =>
    rintro D ys W hD rfl ⟨hrow, hK⟩ hKD
    have HKD := Aside0.mk hKD
    have HROW := Aside0.mk hrow
    have k4 := cI (hK.keep _ _ x0 rfl (by omega)) 0 (v := .slice A l0.length c) rfl
    clear hrow
    gi_wp2
    refine ⟨by simp, .inl ⟨_, _, rfl, run_takeDeferred HKD.out, ?_⟩⟩
    refine ⟨_, results_tmp2 rfl _ _ _, _, rfl, ?_, ?_⟩
    · exact row_weak (row_obj HROW.out D _ _ HKD.out rfl) (by omega)
    · exact HB0.out.trans (hK.p (w := W0) (by omega) D _ _ hD HKD.out rfl).bel
end Go.Proofs.Ytplindcfnlonbaa.P
