/- The walk of the law SheetBack. -/
import Derived.Test.YtpljnkfbcgdafaaHDo
import Derived.Test.YtpljnkfbcgdafaaHAct
import Derived.Test.YtpljnkfbcgdafaaHBackPure
import Derived.Test.YtpljnkfbcgdafaaHAlive
namespace Go.Proofs.Ytpljnkfbcgdafaa.P
open Go.RowKit Go.Shelf Go.Proofs.YtpljnkfbcgdafaaW.PrintWords Go.Proofs.YtpljnkfbcgdafaaW.PrintLast Go.Proofs.YtpljnkfbcgdafaaW.PrintMore
set_option linter.unusedVariables false
set_option linter.unusedSimpArgs false

theorem C_farM {w w' : World} {A : Option Addr} {xs : List Int} {mb : Nat} {x : Array MapEntry} {y : Nat} (h : Kd.C (Kd.int .i64) w A xs.length xs) (hm : w.heap[mb]? = some (.map x y)) (hg : w.grownBy w' (some mb)) : Kd.C (Kd.int .i64) w' A xs.length xs := by
  refine Kd.C_foot_ne (g := mb) (fun hk => hk) h (fun ad ha hn hb => ?_) w' ⟨hg.size, fun i hi hne' _ => hg.block i hi (by simpa using hne')⟩
  subst ha
  have h5 := Kd.C_not_empty h hn (by decide)
  apply h5
  unfold World.cell?
  rw [hb, hm]
set_option maxHeartbeats 16000000 in
set_option maxRecDepth 100000 in
theorem frisketlaw20_SheetBack.calls (o0 o1 : Int) (A0 : Option Addr) (c0 : Nat) (l0 : List S34) (X Y Rw Rh : Int) (w : World) (hC : Kd.C k34 w A0 l0.length l0) (hl : l0.length * 48 ≤ 140737488351232) :
    Calls Try.prog 5 #[.agg #[.int .i64 o0, .int .i64 o1], .slice A0 l0.length c0, .agg #[.int .i64 X, .int .i64 Y, .int .i64 Rw, .int .i64 Rh]] w fun e w' => e = .returned (.bool true) ∧ Below w.heap.size w w' := by
  have hu32 := Try.underlying32
  have hu34 := Try.underlying34
  have hu44 := Try.underlying44
  have HL := Aside0.mk hl
  obtain ⟨wn, hwn⟩ : ∃ wn : Nat, (wn : Int) = 1 + o0 % 16 := ⟨(1 + o0 % 16).toNat, by omega⟩
  obtain ⟨hn, hhn⟩ : ∃ hn : Nat, (hn : Int) = 1 + o1 % 16 := ⟨(1 + o1 % 16).toNat, by omega⟩
  have HWH := Aside0.mk (show 1 ≤ wn ∧ wn ≤ 16 ∧ 1 ≤ hn ∧ hn ≤ 16 by omega)
  have a0 : wrap64 (1 + Go.bits .and .i64 o0 15) = (wn : Int) := by rw [and15, ← hwn]; have := HWH.out; unfold wrap64; omega
  have a1 : wrap64 (1 + Go.bits .and .i64 o1 15) = (hn : Int) := by rw [and15, ← hhn]; have := HWH.out; unfold wrap64; omega
  have hv := below_alloc (below_alloc (Below.refl w.heap.size w) (.cells #[.int .i64 o0, .int .i64 o1] 44)) (.cells #[.int .i64 X, .int .i64 Y, .int .i64 Rw, .int .i64 Rh] 32)
  have b1 := blk_alloc (blk_new w (.cells #[.int .i64 o0, .int .i64 o1] 44)) (.cells #[.int .i64 X, .int .i64 Y, .int .i64 Rw, .int .i64 Rh] 32)
  have b2 := blk_new (w.alloc (.cells #[.int .i64 o0, .int .i64 o1] 44)) (.cells #[.int .i64 X, .int .i64 Y, .int .i64 Rw, .int .i64 Rh] 32)
  rw [World.size_alloc] at b2
  have HV := Aside0.mk hv
  have HB1 := Aside0.mk b1
  have HB2 := Aside0.mk b2
  have HC := Aside0.mk (Kd.C_below hC hv)
  have q0 := cI b1 0 (v := .int .i64 o0) rfl
  have q1 := cI b1 1 (v := .int .i64 o1) rfl
  clear hwn hhn hl hC hv b1 b2
  go_enter Try.func5, Try.ntmps5
  go_upto_region 1 with (fail)
  obtain ⟨V, hV⟩ : ∃ V, (w.alloc (.cells #[.int .i64 o0, .int .i64 o1] 44)).alloc (.cells #[.int .i64 X, .int .i64 Y, .int .i64 Rw, .int .i64 Rh] 32) = V := ⟨_, rfl⟩
  rw [hV] at HV HB1 HB2 HC q0 q1 ⊢
  clear hV
  have HSD := Aside0.mk (show sideB (wn : Int) = true ∧ sideB (hn : Int) = true by have := HWH.out; unfold sideB; simp; omega)
  go_upto_region 3 with (fail)
  rw [a0, a1]
  clear a0 a1 q0 q1
  go_wp2_with (first
    | (go_at_call 7; refine (New.calls (wn : Int) (hn : Int) V HSD.out.1 HSD.out.2).mono ?_; rintro e w2 ⟨p, mb, rfl, hs, hp, hmb, hb⟩; have HS := Aside0.mk hs; have HPM := Aside0.mk (And.intro hp hmb); have HBN := Aside0.mk hb; clear hs hp hmb hb)
    | (go_at_call 8; refine (RNew.calls (wn : Int) (hn : Int) w2 (by have := HWH.out; omega) (by have := HWH.out; omega)).mono ?_; rintro e w3 ⟨g, rfl, hr, hg, hb⟩; have HR := Aside0.mk hr; have HG := Aside0.mk hg; have HBR := Aside0.mk hb; clear hr hg hb))
  have HT := Aside0.mk (show Two V.heap.size w3 p mb g (wn : Int) (hn : Int) 0 from ⟨⟨[], HS.out.below HBR.out, ⟨by simp, fun _ h => by cases h⟩⟩, ⟨[], HR.out, Nat.le_refl _⟩, ⟨HPM.out.1, HPM.out.2, Nat.le_trans HBN.out.size HG.out, Nat.le_trans HBN.out.size HBR.out.size⟩⟩)
  have HBL := Aside0.mk (HBN.out.trans (HBR.out.mono HBN.out.size))
  clear HS HPM HBN HR HG HBR HSD
  go_loopg [13] (min l0.length 60) (fun kq v13 wr => ∃ (i : Nat), v13 = .int .i64 (i : Int) ∧ Aside0 (i + kq = min l0.length 60) ∧ Aside0 (Two V.heap.size wr p mb g (wn : Int) (hn : Int) i) ∧ Aside0 (Below V.heap.size V wr))
  case atStart => exact ⟨0, rfl, ⟨by omega⟩, HT, HBL⟩
  case round =>
    clear HT HBL
    obtain ⟨i, rfl, HI, HT, HBL⟩ := hrel
    by_cases ci : i < l0.length
    · have cb : decide (i < l0.length) = true := decide_eq_true ci
      have cb3 : decide ((i : Int) < (l0.length : Int)) = true := decide_eq_true (by omega)
      have cl : (i < l0.length) = True := eq_true ci
      by_cases c6 : i < 60
      · have d6 : decide ((i : Int) < 60) = true := decide_eq_true (by omega)
        have e6 : decide (i < 60) = true := decide_eq_true c6
        have f6 : (i < 60) = True := eq_true c6
        obtain ⟨d, rfl⟩ : ∃ d, gk = d + 1 := ⟨gk - 1, by have := HI.out; omega⟩
        obtain ⟨ad, ea, x0, x1, x2, x3, x4, x5⟩ := at_T34 (Kd.C_below HC.out HBL.out) (i : Int) (by omega) (by omega)
        subst ea
        simp only [Int.toNat_natCast] at x0 x1 x2 x3 x4 x5
        obtain ⟨q, hq⟩ : ∃ q, rd_T34 l0 (i : Int) = q := ⟨_, rfl⟩
        have HWI := Aside0.mk (show wrap64 ((i : Int) + 1) = ((i + 1 : Nat) : Int) by unfold wrap64; omega)
        have H60 := Aside0.mk (show i ≤ 60 by omega)
        rw [hq] at x0 x1 x2 x3 x4 x5
        clear hq ci c6
        by_cases ho : q.f2 = 1048576
        · have hob : (q.f2 != 1048576) = false := bne_eq_false_iff_eq.2 ho
          clear ho
          go_wp2
          go_roundg d
          case measure => have := HI.out; omega
          case rel => exact ⟨i + 1, by rw [HWI.out], ⟨by have := HI.out; omega⟩, ⟨HT.out.up⟩, HBL⟩
        · have hob : (q.f2 != 1048576) = true := bne_iff_ne.2 ho
          have HO := Aside0.mk ho
          clear ho
          go_wp2_with (go_at_call 10; refine (do.calls V.heap.size p mb g (wn : Int) (hn : Int) i q.f0 q.f1.f0 q.f1.f1 q.f1.f2 q.f1.f3 q.f2 wr HT.out H60.out (by have := HWH.out; omega) (by have := HWH.out; omega) HO.out).mono ?_; rintro e w4 ⟨b, rfl, ht, hb⟩; have HT4 := Aside0.mk ht; have HB4 := Aside0.mk (HBL.out.trans hb); clear ht hb)
          go_roundg d
          case measure => have := HI.out; omega
          case rel => exact ⟨i + 1, by rw [HWI.out], ⟨by have := HI.out; omega⟩, HT4, HB4⟩
      · have d6 : decide ((i : Int) < 60) = false := decide_eq_false (by omega)
        have e6 : decide (i < 60) = false := decide_eq_false c6
        have f6 : (i < 60) = False := eq_false c6
        have H60 := Aside0.mk (show i ≤ 60 by have := HI.out; omega)
        obtain ⟨wr0, hwr0⟩ : ∃ x, x = wr := ⟨_, rfl⟩
        subst hwr0
        obtain ⟨⟨es, hs, hi⟩, hr, hbb⟩ := HT.out
        have HS := Aside0.mk hs
        have HIN := Aside0.mk hi
        have HBX := Aside0.mk hbb
        have HBL0 := HBL
        clear HI hs hi hr hbb HT ci c6 HBL
        go_wp2
        go_loopg [14, 15] wn (fun kq v14 v15 wr => ∃ (i : Nat) (o : List Int) (Av : Option Addr) (cv : Nat), v14 = .slice Av o.length cv ∧ v15 = .int .i64 (i : Int) ∧ Aside0 (i + kq = wn) ∧ Aside0 (o = rdL (valE es) hn (i * hn)) ∧ Aside0 (Kd.R (Kd.int .i64) 3 wr wr0.heap.size (fun _ => True) (.slice Av o.length cv) o) ∧ Aside0 (Below wr0.heap.size wr0 wr))
        case atStart => exact ⟨0, [], none, 0, rfl, rfl, ⟨by omega⟩, ⟨by simp [rdL]⟩, ⟨Kd.R_nil _ _ _ _ _⟩, ⟨Below.refl _ _⟩⟩
        case round =>
          obtain ⟨i, o, Av, cv, rfl, rfl, HI_, HO_, HR_, HB_⟩ := hrel
          by_cases ci : i < wn
          · have cb : decide (i < wn) = true := decide_eq_true ci
            have cb3 : decide ((i : Int) < (wn : Int)) = true := decide_eq_true (by omega)
            have cl : (i < wn) = True := eq_true ci
            have HCI := Aside0.mk ci
            obtain ⟨d, rfl⟩ : ∃ d, gk = d + 1 := ⟨gk - 1, by have := HI_.out; omega⟩
            clear ci
            go_wp2
            go_loopg [14, 16] hn (fun kq v14 v16 wr => ∃ (j : Nat) (o : List Int) (Av : Option Addr) (cv : Nat), v14 = .slice Av o.length cv ∧ v16 = .int .i64 (j : Int) ∧ Aside0 (j + kq = hn) ∧ Aside0 (o = rdL (valE es) hn (i * hn + j)) ∧ Aside0 (Kd.R (Kd.int .i64) 3 wr wr0.heap.size (fun _ => True) (.slice Av o.length cv) o) ∧ Aside0 (Below wr0.heap.size wr0 wr))
            case atStart => exact ⟨0, o, Av, cv, rfl, rfl, ⟨by omega⟩, HO_, HR_, HB_⟩
            case round =>
              clear HO_ HR_ HB_
              obtain ⟨j, o, Av, cv, rfl, rfl, HJ_, HO_, HR_, HB_⟩ := hrel
              by_cases cj : j < hn
              · have cbj : decide (j < hn) = true := decide_eq_true cj
                have cbj3 : decide ((j : Int) < (hn : Int)) = true := decide_eq_true (by omega)
                have clj : (j < hn) = True := eq_true cj
                have HST := Aside0.mk (rdL_step (valE es) hn i j cj)
                obtain ⟨d2, rfl⟩ : ∃ d2, gk = d2 + 1 := ⟨gk - 1, by have := HJ_.out; omega⟩
                have HWJ := Aside0.mk (show wrap64 ((j : Int) + 1) = ((j + 1 : Nat) : Int) by have := HWH.out; unfold wrap64; omega)
                have HKX := Aside0.mk (show inK (i : Int) from inK_small (by have := HWH.out; have := HCI.out; omega))
                have HKY := Aside0.mk (show inK (j : Int) from inK_small (by have := HWH.out; omega))
                have HLEN := Aside0.mk (show o.length ≤ 1000 by rw [HO_.out, rdL_len]; have h1 : i * hn ≤ 16 * 16 := Nat.mul_le_mul (by have := HWH.out; have := HCI.out; omega) (by have := HWH.out; omega); have := HWH.out; omega)
                clear cj
                go_wp2_with (first
                  | (go_at_call 18; refine (At.calls p mb _ _ _ (i : Int) (j : Int) wr (HS.out.below HB_.out) HKX.out HKY.out).mono ?_; rintro e w2 ⟨he, rfl⟩; subst he)
                  | ((with_reducible refine gate_builtin (b := .append) (xs := #[.tmp 81, .tmp 86]) rfl ?_); at_builtin; refine Kd.R_append (Kd.int .i64) (w0 := wr0) wr0.heap.size rfl (.tmp 81) (.tmp 86) 40 3 (.int .i64 0) 8 rfl Try.underlying40 info3 rfl (by decide) (by omega) (.slice Av o.length cv) o (valE es (i : Int) (j : Int)) [.int .i64 (valE es (i : Int) (j : Int))] (fun _ => True) (fun _ => False) rfl rfl rfl (fun _ hk => hk.elim) (fun _ _ => trivial) HR_.out HB_.out HB_.out.size (by have := HLEN.out; omega) ?_; intro v3 w3 ho hb _ _; obtain ⟨A3, c3, e3⟩ := Kd.R_slice ho; have e4 : v3 = .slice A3 (o.length + 1) c3 := (by rw [e3]; simp); subst e4; clear e3; have HR3 := Aside0.mk ho; have HB3 := Aside0.mk hb; clear ho hb))
                go_roundg d2
                case measure => have := HJ_.out; omega
                case rel => exact ⟨j + 1, o ++ [valE es (i : Int) (j : Int)], A3, c3, by simp, by rw [HWJ.out], ⟨by have := HJ_.out; omega⟩, ⟨by rw [HO_.out, ← HST.out]; rfl⟩, ⟨by have := HR3.out; simpa using this⟩, HB3⟩
              · have cbj : decide (j < hn) = false := decide_eq_false cj
                have cbj3 : decide ((j : Int) < (hn : Int)) = false := decide_eq_false (by omega)
                have clj : (j < hn) = False := eq_false cj
                have HJJ := Aside0.mk (show j = hn by have := HJ_.out; omega)
                have HWI := Aside0.mk (show wrap64 ((i : Int) + 1) = ((i + 1 : Nat) : Int) by have := HWH.out; have := HCI.out; unfold wrap64; omega)
                clear cj
                go_wp2
                go_roundg d
                case measure => have := HI_.out; omega
                case rel => exact ⟨i + 1, o, Av, cv, rfl, by rw [HWI.out], ⟨by have := HI_.out; omega⟩, ⟨by have := HO_.out; rw [HJJ.out] at this; rw [Nat.succ_mul]; exact this⟩, HR_, HB_⟩
          · have cb : decide (i < wn) = false := decide_eq_false ci
            have cb3 : decide ((i : Int) < (wn : Int)) = false := decide_eq_false (by omega)
            have cl : (i < wn) = False := eq_false ci
            have hii : i = wn := by have := HI_.out; omega
            have ho1 := HO_.out
            rw [hii] at ho1
            have hrr := Kd.R_reads' HR_.out
            have HRD := Aside0.mk hrr.2.2
            have HRC := Aside0.mk (show o.length ≤ cv by have := hrr.2.1; simpa using this)
            have HOO := Aside0.mk ho1
            have HBB := Aside0.mk HB_.out
            clear ci hii ho1 hrr HO_ HR_ HI_ HB_
            have HRD1 := HRD
            have HRC1 := HRC
            have HOO1 := HOO
            have HBB1 := HBB
            clear HRD HRC HOO HBB
            have hsr := HS.out.below HBB1.out
            have HSR := Aside0.mk hsr
            have hbx := blk_below (blk_below HB2.out HBL0.out) HBB1.out
            have HBXR := Aside0.mk hbx
            have r0 := cI hbx 0 (v := .int .i64 X) rfl
            have r1 := cI hbx 1 (v := .int .i64 Y) rfl
            have r2 := cI hbx 2 (v := .int .i64 Rw) rfl
            have r3 := cI hbx 3 (v := .int .i64 Rh) rfl
            obtain ⟨mx, my, hm⟩ := hsr.own.obj
            have HM := Aside0.mk hm
            clear hsr hbx hm
            go_upto_region 22 with (first
              | (go_at_call 20; refine (TakeL.calls p mb (wn : Int) (hn : Int) es X Y Rw Rh _ wr HSR.out (by have := HWH.out; omega) (by have := HWH.out; omega) HIN.out H60.out).mono ?_; rintro e w5 ⟨r, es5, rfl, hs5, hl5, hk5, hg5⟩; have HS5 := Aside0.mk hs5; have HL5 := Aside0.mk hl5; have HK5 := Aside0.mk hk5; have HG5 := Aside0.mk hg5; clear hs5 hl5 hk5 hg5 r0 r1 r2 r3)
              | (go_at_call 21; refine (Clear.calls p mb _ _ es5 1048576 w5 HS5.out HL5.out).mono ?_; rintro e w6 ⟨he, hs6, hg6⟩; rw [HK5.out.1] at he; subst he; have HS6 := Aside0.mk hs6; have HG6 := Aside0.mk hg6; clear hs6 hg6))
            obtain ⟨mx5, my5, hm5⟩ := HS5.out.own.obj
            have HM5 := Aside0.mk hm5
            have hne : some (w.heap.size + 1) ≠ some mb := by have h1 := HBX.out.2.1; have h2 := blk_lt HB2.out; simp; omega
            have hbx5 := (HG5.out.block _ (blk_lt HBXR.out) hne).trans HBXR.out
            have hbx6 := (HG6.out.block _ (blk_lt hbx5) hne).trans hbx5
            have r2 := cI hbx6 2 (v := .int .i64 Rw) rfl
            have r3 := cI hbx6 3 (v := .int .i64 Rh) rfl
            have HT6 := Aside0.mk (show Below w.heap.size w w6 by
              have t1 := HV.out.trans (HBL0.out.mono HV.out.size)
              have t2 := t1.trans (HBB1.out.mono t1.size)
              have h1 := HBX.out.2.1
              have h2 := HV.out.size
              have t3 := t2.trans (below_gr HG5.out (by omega) t2.size)
              exact t3.trans (below_gr HG6.out (by omega) t3.size))
            clear hm5 hne hbx5 hbx6
            by_cases hr0 : r = 0
            · have z1 : (r == 0) = true := beq_iff_eq.2 hr0
              have z2 : (r != 0) = false := bne_eq_false_iff_eq.2 hr0
              have z3 : (wrap64 (Rw * Rh) != wrap64 (Rw * Rh)) = false := bne_self_eq_false _
              rw [if_pos hr0]
              clear hr0
              go_wp2
              go_loopg [19, 20] wn (fun kq v19 v20 wr => ∃ (i : Nat) (o : List Int) (Av : Option Addr) (cv : Nat), v19 = .slice Av o.length cv ∧ v20 = .int .i64 (i : Int) ∧ Aside0 (i + kq = wn) ∧ Aside0 (o = rdL (valE es) hn (i * hn)) ∧ Aside0 (Kd.R (Kd.int .i64) 3 wr w6.heap.size (fun _ => True) (.slice Av o.length cv) o) ∧ Aside0 (Below w6.heap.size w6 wr))
              case atStart => exact ⟨0, [], none, 0, rfl, rfl, ⟨by omega⟩, ⟨by simp [rdL]⟩, ⟨Kd.R_nil _ _ _ _ _⟩, ⟨Below.refl _ _⟩⟩
              case round =>
                obtain ⟨i, o, Av, cv, rfl, rfl, HI_, HO_, HR_, HB_⟩ := hrel
                by_cases ci : i < wn
                · have cb : decide (i < wn) = true := decide_eq_true ci
                  have cb3 : decide ((i : Int) < (wn : Int)) = true := decide_eq_true (by omega)
                  have cl : (i < wn) = True := eq_true ci
                  have HCI := Aside0.mk ci
                  obtain ⟨d, rfl⟩ : ∃ d, gk = d + 1 := ⟨gk - 1, by have := HI_.out; omega⟩
                  clear ci
                  go_wp2
                  go_loopg [19, 21] hn (fun kq v19 v21 wr => ∃ (j : Nat) (o : List Int) (Av : Option Addr) (cv : Nat), v19 = .slice Av o.length cv ∧ v21 = .int .i64 (j : Int) ∧ Aside0 (j + kq = hn) ∧ Aside0 (o = rdL (valE es) hn (i * hn + j)) ∧ Aside0 (Kd.R (Kd.int .i64) 3 wr w6.heap.size (fun _ => True) (.slice Av o.length cv) o) ∧ Aside0 (Below w6.heap.size w6 wr))
                  case atStart => exact ⟨0, o, Av, cv, rfl, rfl, ⟨by omega⟩, HO_, HR_, HB_⟩
                  case round =>
                    clear HO_ HR_ HB_
                    obtain ⟨j, o, Av, cv, rfl, rfl, HJ_, HO_, HR_, HB_⟩ := hrel
                    by_cases cj : j < hn
                    · have cbj : decide (j < hn) = true := decide_eq_true cj
                      have cbj3 : decide ((j : Int) < (hn : Int)) = true := decide_eq_true (by omega)
                      have clj : (j < hn) = True := eq_true cj
                      have HST := Aside0.mk (rdL_step (valE es) hn i j cj)
                      obtain ⟨d2, rfl⟩ : ∃ d2, gk = d2 + 1 := ⟨gk - 1, by have := HJ_.out; omega⟩
                      have HWJ := Aside0.mk (show wrap64 ((j : Int) + 1) = ((j + 1 : Nat) : Int) by have := HWH.out; unfold wrap64; omega)
                      have HKX := Aside0.mk (show inK (i : Int) from inK_small (by have := HWH.out; have := HCI.out; omega))
                      have HKY := Aside0.mk (show inK (j : Int) from inK_small (by have := HWH.out; omega))
                      have HLEN := Aside0.mk (show o.length ≤ 1000 by rw [HO_.out, rdL_len]; have h1 : i * hn ≤ 16 * 16 := Nat.mul_le_mul (by have := HWH.out; have := HCI.out; omega) (by have := HWH.out; omega); have := HWH.out; omega)
                      clear cj
                      go_wp2_with (first
                        | (go_at_call 18; refine (At.calls p mb _ _ _ (i : Int) (j : Int) wr (HS6.out.below HB_.out) HKX.out HKY.out).mono ?_; rintro e w2 ⟨he, rfl⟩; rw [HK5.out.2] at he; subst he)
                        | ((with_reducible refine gate_builtin (b := .append) (xs := #[.tmp 122, .tmp 127]) rfl ?_); at_builtin; refine Kd.R_append (Kd.int .i64) (w0 := w6) w6.heap.size rfl (.tmp 122) (.tmp 127) 40 3 (.int .i64 0) 8 rfl Try.underlying40 info3 rfl (by decide) (by omega) (.slice Av o.length cv) o (valE es (i : Int) (j : Int)) [.int .i64 (valE es (i : Int) (j : Int))] (fun _ => True) (fun _ => False) rfl rfl rfl (fun _ hk => hk.elim) (fun _ _ => trivial) HR_.out HB_.out HB_.out.size (by have := HLEN.out; omega) ?_; intro v3 w3 ho hb _ _; obtain ⟨A3, c3, e3⟩ := Kd.R_slice ho; have e4 : v3 = .slice A3 (o.length + 1) c3 := (by rw [e3]; simp); subst e4; clear e3; have HR3 := Aside0.mk ho; have HB3 := Aside0.mk hb; clear ho hb))
                      go_roundg d2
                      case measure => have := HJ_.out; omega
                      case rel => exact ⟨j + 1, o ++ [valE es (i : Int) (j : Int)], A3, c3, by simp, by rw [HWJ.out], ⟨by have := HJ_.out; omega⟩, ⟨by rw [HO_.out, ← HST.out]; rfl⟩, ⟨by have := HR3.out; simpa using this⟩, HB3⟩
                    · have cbj : decide (j < hn) = false := decide_eq_false cj
                      have cbj3 : decide ((j : Int) < (hn : Int)) = false := decide_eq_false (by omega)
                      have clj : (j < hn) = False := eq_false cj
                      have HJJ := Aside0.mk (show j = hn by have := HJ_.out; omega)
                      have HWI := Aside0.mk (show wrap64 ((i : Int) + 1) = ((i + 1 : Nat) : Int) by have := HWH.out; have := HCI.out; unfold wrap64; omega)
                      clear cj
                      go_wp2
                      go_roundg d
                      case measure => have := HI_.out; omega
                      case rel => exact ⟨i + 1, o, Av, cv, rfl, by rw [HWI.out], ⟨by have := HI_.out; omega⟩, ⟨by have := HO_.out; rw [HJJ.out] at this; rw [Nat.succ_mul]; exact this⟩, HR_, HB_⟩
                · have cb : decide (i < wn) = false := decide_eq_false ci
                  have cb3 : decide ((i : Int) < (wn : Int)) = false := decide_eq_false (by omega)
                  have cl : (i < wn) = False := eq_false ci
                  have hii : i = wn := by have := HI_.out; omega
                  have ho1 := HO_.out
                  rw [hii] at ho1
                  have hrr := Kd.R_reads' HR_.out
                  have HRD := Aside0.mk hrr.2.2
                  have HRC := Aside0.mk (show o.length ≤ cv by have := hrr.2.1; simpa using this)
                  have HOO := Aside0.mk ho1
                  have HBB := Aside0.mk HB_.out
                  clear ci hii ho1 hrr HO_ HR_ HI_ HB_
                  have HRX := Aside0.mk (Kd.C_below (C_farM (C_farM HRD1.out HM.out HG5.out) HM5.out HG6.out) HBB.out)
                  clear HRD1 HM HM5
                  go_wp2_with (first
                    | (go_at_call 9; refine (frisketlaw20_alive.calls true wr rfl).mono ?_; rintro e w7 ⟨rfl, hb7⟩; have HB7 := Aside0.mk hb7; clear hb7)
                    | (go_at_call 15; refine (frisketref01_Ints.calls ((rdL (valE es) hn (wn * hn)).length + 1) _ _ _ _ _ _ true w7 (Kd.C_below HRX.out HB7.out) HRC1.out (Kd.C_below HRD.out HB7.out) HRC.out (by rw [HOO1.out, HOO.out]; exact ints_f _ (by rw [rdL_len]; have h1 : wn * hn ≤ 16 * 16 := Nat.mul_le_mul (by have := HWH.out; omega) (by have := HWH.out; omega); omega))).mono ?_; rintro e w8 ⟨rfl, ⟨nd, rfl⟩⟩))
                  go_ret
                  exact ⟨rfl, pw_below_drewN ((HT6.out.trans (HBB.out.mono HT6.out.size)).trans (HB7.out.mono (Nat.le_trans HT6.out.size HBB.out.size))) _⟩
            · have z1 : (r == 0) = false := beq_eq_false_iff_ne.2 hr0
              have z2 : (r != 0) = true := bne_iff_ne.2 hr0
              rw [if_neg hr0]
              clear hr0
              go_wp2
              go_loopg [19, 20] wn (fun kq v19 v20 wr => ∃ (i : Nat) (o : List Int) (Av : Option Addr) (cv : Nat), v19 = .slice Av o.length cv ∧ v20 = .int .i64 (i : Int) ∧ Aside0 (i + kq = wn) ∧ Aside0 (o = rdL (valE es) hn (i * hn)) ∧ Aside0 (Kd.R (Kd.int .i64) 3 wr w6.heap.size (fun _ => True) (.slice Av o.length cv) o) ∧ Aside0 (Below w6.heap.size w6 wr))
              case atStart => exact ⟨0, [], none, 0, rfl, rfl, ⟨by omega⟩, ⟨by simp [rdL]⟩, ⟨Kd.R_nil _ _ _ _ _⟩, ⟨Below.refl _ _⟩⟩
              case round =>
                obtain ⟨i, o, Av, cv, rfl, rfl, HI_, HO_, HR_, HB_⟩ := hrel
                by_cases ci : i < wn
                · have cb : decide (i < wn) = true := decide_eq_true ci
                  have cb3 : decide ((i : Int) < (wn : Int)) = true := decide_eq_true (by omega)
                  have cl : (i < wn) = True := eq_true ci
                  have HCI := Aside0.mk ci
                  obtain ⟨d, rfl⟩ : ∃ d, gk = d + 1 := ⟨gk - 1, by have := HI_.out; omega⟩
                  clear ci
                  go_wp2
                  go_loopg [19, 21] hn (fun kq v19 v21 wr => ∃ (j : Nat) (o : List Int) (Av : Option Addr) (cv : Nat), v19 = .slice Av o.length cv ∧ v21 = .int .i64 (j : Int) ∧ Aside0 (j + kq = hn) ∧ Aside0 (o = rdL (valE es) hn (i * hn + j)) ∧ Aside0 (Kd.R (Kd.int .i64) 3 wr w6.heap.size (fun _ => True) (.slice Av o.length cv) o) ∧ Aside0 (Below w6.heap.size w6 wr))
                  case atStart => exact ⟨0, o, Av, cv, rfl, rfl, ⟨by omega⟩, HO_, HR_, HB_⟩
                  case round =>
                    clear HO_ HR_ HB_
                    obtain ⟨j, o, Av, cv, rfl, rfl, HJ_, HO_, HR_, HB_⟩ := hrel
                    by_cases cj : j < hn
                    · have cbj : decide (j < hn) = true := decide_eq_true cj
                      have cbj3 : decide ((j : Int) < (hn : Int)) = true := decide_eq_true (by omega)
                      have clj : (j < hn) = True := eq_true cj
                      have HST := Aside0.mk (rdL_step (valE es) hn i j cj)
                      obtain ⟨d2, rfl⟩ : ∃ d2, gk = d2 + 1 := ⟨gk - 1, by have := HJ_.out; omega⟩
                      have HWJ := Aside0.mk (show wrap64 ((j : Int) + 1) = ((j + 1 : Nat) : Int) by have := HWH.out; unfold wrap64; omega)
                      have HKX := Aside0.mk (show inK (i : Int) from inK_small (by have := HWH.out; have := HCI.out; omega))
                      have HKY := Aside0.mk (show inK (j : Int) from inK_small (by have := HWH.out; omega))
                      have HLEN := Aside0.mk (show o.length ≤ 1000 by rw [HO_.out, rdL_len]; have h1 : i * hn ≤ 16 * 16 := Nat.mul_le_mul (by have := HWH.out; have := HCI.out; omega) (by have := HWH.out; omega); have := HWH.out; omega)
                      clear cj
                      go_wp2_with (first
                        | (go_at_call 18; refine (At.calls p mb _ _ _ (i : Int) (j : Int) wr (HS6.out.below HB_.out) HKX.out HKY.out).mono ?_; rintro e w2 ⟨he, rfl⟩; rw [HK5.out.2] at he; subst he)
                        | ((with_reducible refine gate_builtin (b := .append) (xs := #[.tmp 122, .tmp 127]) rfl ?_); at_builtin; refine Kd.R_append (Kd.int .i64) (w0 := w6) w6.heap.size rfl (.tmp 122) (.tmp 127) 40 3 (.int .i64 0) 8 rfl Try.underlying40 info3 rfl (by decide) (by omega) (.slice Av o.length cv) o (valE es (i : Int) (j : Int)) [.int .i64 (valE es (i : Int) (j : Int))] (fun _ => True) (fun _ => False) rfl rfl rfl (fun _ hk => hk.elim) (fun _ _ => trivial) HR_.out HB_.out HB_.out.size (by have := HLEN.out; omega) ?_; intro v3 w3 ho hb _ _; obtain ⟨A3, c3, e3⟩ := Kd.R_slice ho; have e4 : v3 = .slice A3 (o.length + 1) c3 := (by rw [e3]; simp); subst e4; clear e3; have HR3 := Aside0.mk ho; have HB3 := Aside0.mk hb; clear ho hb))
                      go_roundg d2
                      case measure => have := HJ_.out; omega
                      case rel => exact ⟨j + 1, o ++ [valE es (i : Int) (j : Int)], A3, c3, by simp, by rw [HWJ.out], ⟨by have := HJ_.out; omega⟩, ⟨by rw [HO_.out, ← HST.out]; rfl⟩, ⟨by have := HR3.out; simpa using this⟩, HB3⟩
                    · have cbj : decide (j < hn) = false := decide_eq_false cj
                      have cbj3 : decide ((j : Int) < (hn : Int)) = false := decide_eq_false (by omega)
                      have clj : (j < hn) = False := eq_false cj
                      have HJJ := Aside0.mk (show j = hn by have := HJ_.out; omega)
                      have HWI := Aside0.mk (show wrap64 ((i : Int) + 1) = ((i + 1 : Nat) : Int) by have := HWH.out; have := HCI.out; unfold wrap64; omega)
                      clear cj
                      go_wp2
                      go_roundg d
                      case measure => have := HI_.out; omega
                      case rel => exact ⟨i + 1, o, Av, cv, rfl, by rw [HWI.out], ⟨by have := HI_.out; omega⟩, ⟨by have := HO_.out; rw [HJJ.out] at this; rw [Nat.succ_mul]; exact this⟩, HR_, HB_⟩
                · have cb : decide (i < wn) = false := decide_eq_false ci
                  have cb3 : decide ((i : Int) < (wn : Int)) = false := decide_eq_false (by omega)
                  have cl : (i < wn) = False := eq_false ci
                  have hii : i = wn := by have := HI_.out; omega
                  have ho1 := HO_.out
                  rw [hii] at ho1
                  have hrr := Kd.R_reads' HR_.out
                  have HRD := Aside0.mk hrr.2.2
                  have HRC := Aside0.mk (show o.length ≤ cv by have := hrr.2.1; simpa using this)
                  have HOO := Aside0.mk ho1
                  have HBB := Aside0.mk HB_.out
                  clear ci hii ho1 hrr HO_ HR_ HI_ HB_
                  have HRX := Aside0.mk (Kd.C_below (C_farM (C_farM HRD1.out HM.out HG5.out) HM5.out HG6.out) HBB.out)
                  clear HRD1 HM HM5
                  go_wp2_with (first
                    | (go_at_call 9; refine (frisketlaw20_alive.calls true wr rfl).mono ?_; rintro e w7 ⟨rfl, hb7⟩; have HB7 := Aside0.mk hb7; clear hb7)
                    | (go_at_call 15; refine (frisketref01_Ints.calls ((rdL (valE es) hn (wn * hn)).length + 1) _ _ _ _ _ _ true w7 (Kd.C_below HRX.out HB7.out) HRC1.out (Kd.C_below HRD.out HB7.out) HRC.out (by rw [HOO1.out, HOO.out]; exact ints_f _ (by rw [rdL_len]; have h1 : wn * hn ≤ 16 * 16 := Nat.mul_le_mul (by have := HWH.out; omega) (by have := HWH.out; omega); omega))).mono ?_; rintro e w8 ⟨rfl, ⟨nd, rfl⟩⟩))
                  go_ret
                  exact ⟨rfl, pw_below_drewN ((HT6.out.trans (HBB.out.mono HT6.out.size)).trans (HB7.out.mono (Nat.le_trans HT6.out.size HBB.out.size))) _⟩
    · have cb : decide (i < l0.length) = false := decide_eq_false ci
      have cb3 : decide ((i : Int) < (l0.length : Int)) = false := decide_eq_false (by omega)
      have cl : (i < l0.length) = False := eq_false ci
      have H60 := Aside0.mk (show i ≤ 60 by have := HI.out; omega)
      obtain ⟨wr0, hwr0⟩ : ∃ x, x = wr := ⟨_, rfl⟩
      subst hwr0
      obtain ⟨⟨es, hs, hi⟩, hr, hbb⟩ := HT.out
      have HS := Aside0.mk hs
      have HIN := Aside0.mk hi
      have HBX := Aside0.mk hbb
      have HBL0 := HBL
      clear HI hs hi hr hbb HT ci HBL
      go_wp2
      go_loopg [14, 15] wn (fun kq v14 v15 wr => ∃ (i : Nat) (o : List Int) (Av : Option Addr) (cv : Nat), v14 = .slice Av o.length cv ∧ v15 = .int .i64 (i : Int) ∧ Aside0 (i + kq = wn) ∧ Aside0 (o = rdL (valE es) hn (i * hn)) ∧ Aside0 (Kd.R (Kd.int .i64) 3 wr wr0.heap.size (fun _ => True) (.slice Av o.length cv) o) ∧ Aside0 (Below wr0.heap.size wr0 wr))
      case atStart => exact ⟨0, [], none, 0, rfl, rfl, ⟨by omega⟩, ⟨by simp [rdL]⟩, ⟨Kd.R_nil _ _ _ _ _⟩, ⟨Below.refl _ _⟩⟩
      case round =>
        obtain ⟨i, o, Av, cv, rfl, rfl, HI_, HO_, HR_, HB_⟩ := hrel
        by_cases ci : i < wn
        · have cb : decide (i < wn) = true := decide_eq_true ci
          have cb3 : decide ((i : Int) < (wn : Int)) = true := decide_eq_true (by omega)
          have cl : (i < wn) = True := eq_true ci
          have HCI := Aside0.mk ci
          obtain ⟨d, rfl⟩ : ∃ d, gk = d + 1 := ⟨gk - 1, by have := HI_.out; omega⟩
          clear ci
          go_wp2
          go_loopg [14, 16] hn (fun kq v14 v16 wr => ∃ (j : Nat) (o : List Int) (Av : Option Addr) (cv : Nat), v14 = .slice Av o.length cv ∧ v16 = .int .i64 (j : Int) ∧ Aside0 (j + kq = hn) ∧ Aside0 (o = rdL (valE es) hn (i * hn + j)) ∧ Aside0 (Kd.R (Kd.int .i64) 3 wr wr0.heap.size (fun _ => True) (.slice Av o.length cv) o) ∧ Aside0 (Below wr0.heap.size wr0 wr))
          case atStart => exact ⟨0, o, Av, cv, rfl, rfl, ⟨by omega⟩, HO_, HR_, HB_⟩
          case round =>
            clear HO_ HR_ HB_
            obtain ⟨j, o, Av, cv, rfl, rfl, HJ_, HO_, HR_, HB_⟩ := hrel
            by_cases cj : j < hn
            · have cbj : decide (j < hn) = true := decide_eq_true cj
              have cbj3 : decide ((j : Int) < (hn : Int)) = true := decide_eq_true (by omega)
              have clj : (j < hn) = True := eq_true cj
              have HST := Aside0.mk (rdL_step (valE es) hn i j cj)
              obtain ⟨d2, rfl⟩ : ∃ d2, gk = d2 + 1 := ⟨gk - 1, by have := HJ_.out; omega⟩
              have HWJ := Aside0.mk (show wrap64 ((j : Int) + 1) = ((j + 1 : Nat) : Int) by have := HWH.out; unfold wrap64; omega)
              have HKX := Aside0.mk (show inK (i : Int) from inK_small (by have := HWH.out; have := HCI.out; omega))
              have HKY := Aside0.mk (show inK (j : Int) from inK_small (by have := HWH.out; omega))
              have HLEN := Aside0.mk (show o.length ≤ 1000 by rw [HO_.out, rdL_len]; have h1 : i * hn ≤ 16 * 16 := Nat.mul_le_mul (by have := HWH.out; have := HCI.out; omega) (by have := HWH.out; omega); have := HWH.out; omega)
              clear cj
              go_wp2_with (first
                | (go_at_call 18; refine (At.calls p mb _ _ _ (i : Int) (j : Int) wr (HS.out.below HB_.out) HKX.out HKY.out).mono ?_; rintro e w2 ⟨he, rfl⟩; subst he)
                | ((with_reducible refine gate_builtin (b := .append) (xs := #[.tmp 81, .tmp 86]) rfl ?_); at_builtin; refine Kd.R_append (Kd.int .i64) (w0 := wr0) wr0.heap.size rfl (.tmp 81) (.tmp 86) 40 3 (.int .i64 0) 8 rfl Try.underlying40 info3 rfl (by decide) (by omega) (.slice Av o.length cv) o (valE es (i : Int) (j : Int)) [.int .i64 (valE es (i : Int) (j : Int))] (fun _ => True) (fun _ => False) rfl rfl rfl (fun _ hk => hk.elim) (fun _ _ => trivial) HR_.out HB_.out HB_.out.size (by have := HLEN.out; omega) ?_; intro v3 w3 ho hb _ _; obtain ⟨A3, c3, e3⟩ := Kd.R_slice ho; have e4 : v3 = .slice A3 (o.length + 1) c3 := (by rw [e3]; simp); subst e4; clear e3; have HR3 := Aside0.mk ho; have HB3 := Aside0.mk hb; clear ho hb))
              go_roundg d2
              case measure => have := HJ_.out; omega
              case rel => exact ⟨j + 1, o ++ [valE es (i : Int) (j : Int)], A3, c3, by simp, by rw [HWJ.out], ⟨by have := HJ_.out; omega⟩, ⟨by rw [HO_.out, ← HST.out]; rfl⟩, ⟨by have := HR3.out; simpa using this⟩, HB3⟩
            · have cbj : decide (j < hn) = false := decide_eq_false cj
              have cbj3 : decide ((j : Int) < (hn : Int)) = false := decide_eq_false (by omega)
              have clj : (j < hn) = False := eq_false cj
              have HJJ := Aside0.mk (show j = hn by have := HJ_.out; omega)
              have HWI := Aside0.mk (show wrap64 ((i : Int) + 1) = ((i + 1 : Nat) : Int) by have := HWH.out; have := HCI.out; unfold wrap64; omega)
              clear cj
              go_wp2
              go_roundg d
              case measure => have := HI_.out; omega
              case rel => exact ⟨i + 1, o, Av, cv, rfl, by rw [HWI.out], ⟨by have := HI_.out; omega⟩, ⟨by have := HO_.out; rw [HJJ.out] at this; rw [Nat.succ_mul]; exact this⟩, HR_, HB_⟩
        · have cb : decide (i < wn) = false := decide_eq_false ci
          have cb3 : decide ((i : Int) < (wn : Int)) = false := decide_eq_false (by omega)
          have cl : (i < wn) = False := eq_false ci
          have hii : i = wn := by have := HI_.out; omega
          have ho1 := HO_.out
          rw [hii] at ho1
          have hrr := Kd.R_reads' HR_.out
          have HRD := Aside0.mk hrr.2.2
          have HRC := Aside0.mk (show o.length ≤ cv by have := hrr.2.1; simpa using this)
          have HOO := Aside0.mk ho1
          have HBB := Aside0.mk HB_.out
          clear ci hii ho1 hrr HO_ HR_ HI_ HB_
          have HRD1 := HRD
          have HRC1 := HRC
          have HOO1 := HOO
          have HBB1 := HBB
          clear HRD HRC HOO HBB
          have hsr := HS.out.below HBB1.out
          have HSR := Aside0.mk hsr
          have hbx := blk_below (blk_below HB2.out HBL0.out) HBB1.out
          have HBXR := Aside0.mk hbx
          have r0 := cI hbx 0 (v := .int .i64 X) rfl
          have r1 := cI hbx 1 (v := .int .i64 Y) rfl
          have r2 := cI hbx 2 (v := .int .i64 Rw) rfl
          have r3 := cI hbx 3 (v := .int .i64 Rh) rfl
          obtain ⟨mx, my, hm⟩ := hsr.own.obj
          have HM := Aside0.mk hm
          clear hsr hbx hm
          go_upto_region 22 with (first
            | (go_at_call 20; refine (TakeL.calls p mb (wn : Int) (hn : Int) es X Y Rw Rh _ wr HSR.out (by have := HWH.out; omega) (by have := HWH.out; omega) HIN.out H60.out).mono ?_; rintro e w5 ⟨r, es5, rfl, hs5, hl5, hk5, hg5⟩; have HS5 := Aside0.mk hs5; have HL5 := Aside0.mk hl5; have HK5 := Aside0.mk hk5; have HG5 := Aside0.mk hg5; clear hs5 hl5 hk5 hg5 r0 r1 r2 r3)
            | (go_at_call 21; refine (Clear.calls p mb _ _ es5 1048576 w5 HS5.out HL5.out).mono ?_; rintro e w6 ⟨he, hs6, hg6⟩; rw [HK5.out.1] at he; subst he; have HS6 := Aside0.mk hs6; have HG6 := Aside0.mk hg6; clear hs6 hg6))
          obtain ⟨mx5, my5, hm5⟩ := HS5.out.own.obj
          have HM5 := Aside0.mk hm5
          have hne : some (w.heap.size + 1) ≠ some mb := by have h1 := HBX.out.2.1; have h2 := blk_lt HB2.out; simp; omega
          have hbx5 := (HG5.out.block _ (blk_lt HBXR.out) hne).trans HBXR.out
          have hbx6 := (HG6.out.block _ (blk_lt hbx5) hne).trans hbx5
          have r2 := cI hbx6 2 (v := .int .i64 Rw) rfl
          have r3 := cI hbx6 3 (v := .int .i64 Rh) rfl
          have HT6 := Aside0.mk (show Below w.heap.size w w6 by
            have t1 := HV.out.trans (HBL0.out.mono HV.out.size)
            have t2 := t1.trans (HBB1.out.mono t1.size)
            have h1 := HBX.out.2.1
            have h2 := HV.out.size
            have t3 := t2.trans (below_gr HG5.out (by omega) t2.size)
            exact t3.trans (below_gr HG6.out (by omega) t3.size))
          clear hm5 hne hbx5 hbx6
          by_cases hr0 : r = 0
          · have z1 : (r == 0) = true := beq_iff_eq.2 hr0
            have z2 : (r != 0) = false := bne_eq_false_iff_eq.2 hr0
            have z3 : (wrap64 (Rw * Rh) != wrap64 (Rw * Rh)) = false := bne_self_eq_false _
            rw [if_pos hr0]
            clear hr0
            go_wp2
            go_loopg [19, 20] wn (fun kq v19 v20 wr => ∃ (i : Nat) (o : List Int) (Av : Option Addr) (cv : Nat), v19 = .slice Av o.length cv ∧ v20 = .int .i64 (i : Int) ∧ Aside0 (i + kq = wn) ∧ Aside0 (o = rdL (valE es) hn (i * hn)) ∧ Aside0 (Kd.R (Kd.int .i64) 3 wr w6.heap.size (fun _ => True) (.slice Av o.length cv) o) ∧ Aside0 (Below w6.heap.size w6 wr))
            case atStart => exact ⟨0, [], none, 0, rfl, rfl, ⟨by omega⟩, ⟨by simp [rdL]⟩, ⟨Kd.R_nil _ _ _ _ _⟩, ⟨Below.refl _ _⟩⟩
            case round =>
              obtain ⟨i, o, Av, cv, rfl, rfl, HI_, HO_, HR_, HB_⟩ := hrel
              by_cases ci : i < wn
              · have cb : decide (i < wn) = true := decide_eq_true ci
                have cb3 : decide ((i : Int) < (wn : Int)) = true := decide_eq_true (by omega)
                have cl : (i < wn) = True := eq_true ci
                have HCI := Aside0.mk ci
                obtain ⟨d, rfl⟩ : ∃ d, gk = d + 1 := ⟨gk - 1, by have := HI_.out; omega⟩
                clear ci
                go_wp2
                go_loopg [19, 21] hn (fun kq v19 v21 wr => ∃ (j : Nat) (o : List Int) (Av : Option Addr) (cv : Nat), v19 = .slice Av o.length cv ∧ v21 = .int .i64 (j : Int) ∧ Aside0 (j + kq = hn) ∧ Aside0 (o = rdL (valE es) hn (i * hn + j)) ∧ Aside0 (Kd.R (Kd.int .i64) 3 wr w6.heap.size (fun _ => True) (.slice Av o.length cv) o) ∧ Aside0 (Below w6.heap.size w6 wr))
                case atStart => exact ⟨0, o, Av, cv, rfl, rfl, ⟨by omega⟩, HO_, HR_, HB_⟩
                case round =>
                  clear HO_ HR_ HB_
                  obtain ⟨j, o, Av, cv, rfl, rfl, HJ_, HO_, HR_, HB_⟩ := hrel
                  by_cases cj : j < hn
                  · have cbj : decide (j < hn) = true := decide_eq_true cj
                    have cbj3 : decide ((j : Int) < (hn : Int)) = true := decide_eq_true (by omega)
                    have clj : (j < hn) = True := eq_true cj
                    have HST := Aside0.mk (rdL_step (valE es) hn i j cj)
                    obtain ⟨d2, rfl⟩ : ∃ d2, gk = d2 + 1 := ⟨gk - 1, by have := HJ_.out; omega⟩
                    have HWJ := Aside0.mk (show wrap64 ((j : Int) + 1) = ((j + 1 : Nat) : Int) by have := HWH.out; unfold wrap64; omega)
                    have HKX := Aside0.mk (show inK (i : Int) from inK_small (by have := HWH.out; have := HCI.out; omega))
                    have HKY := Aside0.mk (show inK (j : Int) from inK_small (by have := HWH.out; omega))
                    have HLEN := Aside0.mk (show o.length ≤ 1000 by rw [HO_.out, rdL_len]; have h1 : i * hn ≤ 16 * 16 := Nat.mul_le_mul (by have := HWH.out; have := HCI.out; omega) (by have := HWH.out; omega); have := HWH.out; omega)
                    clear cj
                    go_wp2_with (first
                      | (go_at_call 18; refine (At.calls p mb _ _ _ (i : Int) (j : Int) wr (HS6.out.below HB_.out) HKX.out HKY.out).mono ?_; rintro e w2 ⟨he, rfl⟩; rw [HK5.out.2] at he; subst he)
                      | ((with_reducible refine gate_builtin (b := .append) (xs := #[.tmp 122, .tmp 127]) rfl ?_); at_builtin; refine Kd.R_append (Kd.int .i64) (w0 := w6) w6.heap.size rfl (.tmp 122) (.tmp 127) 40 3 (.int .i64 0) 8 rfl Try.underlying40 info3 rfl (by decide) (by omega) (.slice Av o.length cv) o (valE es (i : Int) (j : Int)) [.int .i64 (valE es (i : Int) (j : Int))] (fun _ => True) (fun _ => False) rfl rfl rfl (fun _ hk => hk.elim) (fun _ _ => trivial) HR_.out HB_.out HB_.out.size (by have := HLEN.out; omega) ?_; intro v3 w3 ho hb _ _; obtain ⟨A3, c3, e3⟩ := Kd.R_slice ho; have e4 : v3 = .slice A3 (o.length + 1) c3 := (by rw [e3]; simp); subst e4; clear e3; have HR3 := Aside0.mk ho; have HB3 := Aside0.mk hb; clear ho hb))
                    go_roundg d2
                    case measure => have := HJ_.out; omega
                    case rel => exact ⟨j + 1, o ++ [valE es (i : Int) (j : Int)], A3, c3, by simp, by rw [HWJ.out], ⟨by have := HJ_.out; omega⟩, ⟨by rw [HO_.out, ← HST.out]; rfl⟩, ⟨by have := HR3.out; simpa using this⟩, HB3⟩
                  · have cbj : decide (j < hn) = false := decide_eq_false cj
                    have cbj3 : decide ((j : Int) < (hn : Int)) = false := decide_eq_false (by omega)
                    have clj : (j < hn) = False := eq_false cj
                    have HJJ := Aside0.mk (show j = hn by have := HJ_.out; omega)
                    have HWI := Aside0.mk (show wrap64 ((i : Int) + 1) = ((i + 1 : Nat) : Int) by have := HWH.out; have := HCI.out; unfold wrap64; omega)
                    clear cj
                    go_wp2
                    go_roundg d
                    case measure => have := HI_.out; omega
                    case rel => exact ⟨i + 1, o, Av, cv, rfl, by rw [HWI.out], ⟨by have := HI_.out; omega⟩, ⟨by have := HO_.out; rw [HJJ.out] at this; rw [Nat.succ_mul]; exact this⟩, HR_, HB_⟩
              · have cb : decide (i < wn) = false := decide_eq_false ci
                have cb3 : decide ((i : Int) < (wn : Int)) = false := decide_eq_false (by omega)
                have cl : (i < wn) = False := eq_false ci
                have hii : i = wn := by have := HI_.out; omega
                have ho1 := HO_.out
                rw [hii] at ho1
                have hrr := Kd.R_reads' HR_.out
                have HRD := Aside0.mk hrr.2.2
                have HRC := Aside0.mk (show o.length ≤ cv by have := hrr.2.1; simpa using this)
                have HOO := Aside0.mk ho1
                have HBB := Aside0.mk HB_.out
                clear ci hii ho1 hrr HO_ HR_ HI_ HB_
                have HRX := Aside0.mk (Kd.C_below (C_farM (C_farM HRD1.out HM.out HG5.out) HM5.out HG6.out) HBB.out)
                clear HRD1 HM HM5
                go_wp2_with (first
                  | (go_at_call 9; refine (frisketlaw20_alive.calls true wr rfl).mono ?_; rintro e w7 ⟨rfl, hb7⟩; have HB7 := Aside0.mk hb7; clear hb7)
                  | (go_at_call 15; refine (frisketref01_Ints.calls ((rdL (valE es) hn (wn * hn)).length + 1) _ _ _ _ _ _ true w7 (Kd.C_below HRX.out HB7.out) HRC1.out (Kd.C_below HRD.out HB7.out) HRC.out (by rw [HOO1.out, HOO.out]; exact ints_f _ (by rw [rdL_len]; have h1 : wn * hn ≤ 16 * 16 := Nat.mul_le_mul (by have := HWH.out; omega) (by have := HWH.out; omega); omega))).mono ?_; rintro e w8 ⟨rfl, ⟨nd, rfl⟩⟩))
                go_ret
                exact ⟨rfl, pw_below_drewN ((HT6.out.trans (HBB.out.mono HT6.out.size)).trans (HB7.out.mono (Nat.le_trans HT6.out.size HBB.out.size))) _⟩
          · have z1 : (r == 0) = false := beq_eq_false_iff_ne.2 hr0
            have z2 : (r != 0) = true := bne_iff_ne.2 hr0
            rw [if_neg hr0]
            clear hr0
            go_wp2
            go_loopg [19, 20] wn (fun kq v19 v20 wr => ∃ (i : Nat) (o : List Int) (Av : Option Addr) (cv : Nat), v19 = .slice Av o.length cv ∧ v20 = .int .i64 (i : Int) ∧ Aside0 (i + kq = wn) ∧ Aside0 (o = rdL (valE es) hn (i * hn)) ∧ Aside0 (Kd.R (Kd.int .i64) 3 wr w6.heap.size (fun _ => True) (.slice Av o.length cv) o) ∧ Aside0 (Below w6.heap.size w6 wr))
            case atStart => exact ⟨0, [], none, 0, rfl, rfl, ⟨by omega⟩, ⟨by simp [rdL]⟩, ⟨Kd.R_nil _ _ _ _ _⟩, ⟨Below.refl _ _⟩⟩
            case round =>
              obtain ⟨i, o, Av, cv, rfl, rfl, HI_, HO_, HR_, HB_⟩ := hrel
              by_cases ci : i < wn
              · have cb : decide (i < wn) = true := decide_eq_true ci
                have cb3 : decide ((i : Int) < (wn : Int)) = true := decide_eq_true (by omega)
                have cl : (i < wn) = True := eq_true ci
                have HCI := Aside0.mk ci
                obtain ⟨d, rfl⟩ : ∃ d, gk = d + 1 := ⟨gk - 1, by have := HI_.out; omega⟩
                clear ci
                go_wp2
                go_loopg [19, 21] hn (fun kq v19 v21 wr => ∃ (j : Nat) (o : List Int) (Av : Option Addr) (cv : Nat), v19 = .slice Av o.length cv ∧ v21 = .int .i64 (j : Int) ∧ Aside0 (j + kq = hn) ∧ Aside0 (o = rdL (valE es) hn (i * hn + j)) ∧ Aside0 (Kd.R (Kd.int .i64) 3 wr w6.heap.size (fun _ => True) (.slice Av o.length cv) o) ∧ Aside0 (Below w6.heap.size w6 wr))
                case atStart => exact ⟨0, o, Av, cv, rfl, rfl, ⟨by omega⟩, HO_, HR_, HB_⟩
                case round =>
                  clear HO_ HR_ HB_
                  obtain ⟨j, o, Av, cv, rfl, rfl, HJ_, HO_, HR_, HB_⟩ := hrel
                  by_cases cj : j < hn
                  · have cbj : decide (j < hn) = true := decide_eq_true cj
                    have cbj3 : decide ((j : Int) < (hn : Int)) = true := decide_eq_true (by omega)
                    have clj : (j < hn) = True := eq_true cj
                    have HST := Aside0.mk (rdL_step (valE es) hn i j cj)
                    obtain ⟨d2, rfl⟩ : ∃ d2, gk = d2 + 1 := ⟨gk - 1, by have := HJ_.out; omega⟩
                    have HWJ := Aside0.mk (show wrap64 ((j : Int) + 1) = ((j + 1 : Nat) : Int) by have := HWH.out; unfold wrap64; omega)
                    have HKX := Aside0.mk (show inK (i : Int) from inK_small (by have := HWH.out; have := HCI.out; omega))
                    have HKY := Aside0.mk (show inK (j : Int) from inK_small (by have := HWH.out; omega))
                    have HLEN := Aside0.mk (show o.length ≤ 1000 by rw [HO_.out, rdL_len]; have h1 : i * hn ≤ 16 * 16 := Nat.mul_le_mul (by have := HWH.out; have := HCI.out; omega) (by have := HWH.out; omega); have := HWH.out; omega)
                    clear cj
                    go_wp2_with (first
                      | (go_at_call 18; refine (At.calls p mb _ _ _ (i : Int) (j : Int) wr (HS6.out.below HB_.out) HKX.out HKY.out).mono ?_; rintro e w2 ⟨he, rfl⟩; rw [HK5.out.2] at he; subst he)
                      | ((with_reducible refine gate_builtin (b := .append) (xs := #[.tmp 122, .tmp 127]) rfl ?_); at_builtin; refine Kd.R_append (Kd.int .i64) (w0 := w6) w6.heap.size rfl (.tmp 122) (.tmp 127) 40 3 (.int .i64 0) 8 rfl Try.underlying40 info3 rfl (by decide) (by omega) (.slice Av o.length cv) o (valE es (i : Int) (j : Int)) [.int .i64 (valE es (i : Int) (j : Int))] (fun _ => True) (fun _ => False) rfl rfl rfl (fun _ hk => hk.elim) (fun _ _ => trivial) HR_.out HB_.out HB_.out.size (by have := HLEN.out; omega) ?_; intro v3 w3 ho hb _ _; obtain ⟨A3, c3, e3⟩ := Kd.R_slice ho; have e4 : v3 = .slice A3 (o.length + 1) c3 := (by rw [e3]; simp); subst e4; clear e3; have HR3 := Aside0.mk ho; have HB3 := Aside0.mk hb; clear ho hb))
                    go_roundg d2
                    case measure => have := HJ_.out; omega
                    case rel => exact ⟨j + 1, o ++ [valE es (i : Int) (j : Int)], A3, c3, by simp, by rw [HWJ.out], ⟨by have := HJ_.out; omega⟩, ⟨by rw [HO_.out, ← HST.out]; rfl⟩, ⟨by have := HR3.out; simpa using this⟩, HB3⟩
                  · have cbj : decide (j < hn) = false := decide_eq_false cj
                    have cbj3 : decide ((j : Int) < (hn : Int)) = false := decide_eq_false (by omega)
                    have clj : (j < hn) = False := eq_false cj
                    have HJJ := Aside0.mk (show j = hn by have := HJ_.out; omega)
                    have HWI := Aside0.mk (show wrap64 ((i : Int) + 1) = ((i + 1 : Nat) : Int) by have := HWH.out; have := HCI.out; unfold wrap64; omega)
                    clear cj
                    go_wp2
                    go_roundg d
                    case measure => have := HI_.out; omega
                    case rel => exact ⟨i + 1, o, Av, cv, rfl, by rw [HWI.out], ⟨by have := HI_.out; omega⟩, ⟨by have := HO_.out; rw [HJJ.out] at this; rw [Nat.succ_mul]; exact this⟩, HR_, HB_⟩
              · have cb : decide (i < wn) = false := decide_eq_false ci
                have cb3 : decide ((i : Int) < (wn : Int)) = false := decide_eq_false (by omega)
                have cl : (i < wn) = False := eq_false ci
                have hii : i = wn := by have := HI_.out; omega
                have ho1 := HO_.out
                rw [hii] at ho1
                have hrr := Kd.R_reads' HR_.out
                have HRD := Aside0.mk hrr.2.2
                have HRC := Aside0.mk (show o.length ≤ cv by have := hrr.2.1; simpa using this)
                have HOO := Aside0.mk ho1
                have HBB := Aside0.mk HB_.out
                clear ci hii ho1 hrr HO_ HR_ HI_ HB_
                have HRX := Aside0.mk (Kd.C_below (C_farM (C_farM HRD1.out HM.out HG5.out) HM5.out HG6.out) HBB.out)
                clear HRD1 HM HM5
                go_wp2_with (first
                  | (go_at_call 9; refine (frisketlaw20_alive.calls true wr rfl).mono ?_; rintro e w7 ⟨rfl, hb7⟩; have HB7 := Aside0.mk hb7; clear hb7)
                  | (go_at_call 15; refine (frisketref01_Ints.calls ((rdL (valE es) hn (wn * hn)).length + 1) _ _ _ _ _ _ true w7 (Kd.C_below HRX.out HB7.out) HRC1.out (Kd.C_below HRD.out HB7.out) HRC.out (by rw [HOO1.out, HOO.out]; exact ints_f _ (by rw [rdL_len]; have h1 : wn * hn ≤ 16 * 16 := Nat.mul_le_mul (by have := HWH.out; omega) (by have := HWH.out; omega); omega))).mono ?_; rintro e w8 ⟨rfl, ⟨nd, rfl⟩⟩))
                go_ret
                exact ⟨rfl, pw_below_drewN ((HT6.out.trans (HBB.out.mono HT6.out.size)).trans (HB7.out.mono (Nat.le_trans HT6.out.size HBB.out.size))) _⟩
end Go.Proofs.Ytpljnkfbcgdafaa.P
