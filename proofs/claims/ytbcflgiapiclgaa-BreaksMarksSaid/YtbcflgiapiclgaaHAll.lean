/- breaks.All: its loop over the counts, and within it the loop over the ten rules. -/
import Derived.Test.YtbcflgiapiclgaaP3
import Derived.Test.YtbcflgiapiclgaaHRules
namespace Go.Proofs.Ytbcflgiapiclgaa.P
open Go.RowKit Go.Shelf Go.Proofs.YtbcflgiapiclgaaW.PrintWords Go.Proofs.YtbcflgiapiclgaaW.PrintLast Go.Proofs.YtbcflgiapiclgaaW.PrintMore
set_option linter.unusedVariables false
set_option linter.unusedSimpArgs false

/-- The last kind that is no space. -/
def ahdW (a k : Int) : Int := if (k != 8) = true then k else a
def allL (l c : List Int) : Nat → List Int → Int → Nat → List Int
  | 0, out, _, _ => out
  | d + 1, out, a, i => if d = 0 then out ++ [2] else allL l c d (out ++ [verd (rd c i) (rd c ((i + 1 : Nat) : Int)) (rd l ((i + 1 : Nat) : Int) == 10) (ahdW a (rd c i)) 10 0]) (ahdW a (rd c i)) (i + 1)
def breaks_All.f (l0 : List Int) : Option (List Int) :=
  if l0.length ≤ 1099511627776 then (breaks_Counts.f (6 * l0.length + 8) l0).bind fun c => if c.length = l0.length then some (allL l0 c c.length [] 11 0) else none else none
theorem add_suc (ad : Addr) (i : Nat) : ad.add (i + 1) = ⟨ad.block, ad.off + (i + 1), none⟩ := by unfold Addr.add; rw [if_neg (by omega)]
theorem verd_at (a b : Int) (m : Bool) (h : Int) (d i : Nat) : verd a b m h (d + 1) i = if ruleP i a b m h = true then howL i else verd a b m h d (i + 1) := rfl
theorem gL_eg (i : Nat) : ∀ args w, (callFunc (gL i) args).run Try.prog w = .ok (.enter (gL i) args) w := by
  unfold gL
  split
  · exact enters_of Try.func24 (by kernel_rfl) rfl
  · exact enters_of Try.func25 (by kernel_rfl) rfl
  · exact enters_of Try.func26 (by kernel_rfl) rfl
  · exact enters_of Try.func27 (by kernel_rfl) rfl
  · exact enters_of Try.func28 (by kernel_rfl) rfl
  · exact enters_of Try.func29 (by kernel_rfl) rfl
  · exact enters_of Try.func30 (by kernel_rfl) rfl
  · exact enters_of Try.func31 (by kernel_rfl) rfl
  · exact enters_of Try.func32 (by kernel_rfl) rfl
  · exact enters_of Try.func34 (by kernel_rfl) rfl
set_option maxHeartbeats 4000000 in
set_option maxRecDepth 100000 in
theorem breaks_All.calls (A0 : Option Addr) (c0 : Nat) (l0 : List Int) (r : List Int) (w : World) (hr0 : Kd.C (Kd.int .i64) w A0 l0.length l0) (hc0 : l0.length ≤ c0) (h : breaks_All.f l0 = some r) :
    Calls Try.prog 9 #[.slice A0 l0.length c0] w fun e w' => ∃ v0_ : Value, e = .returned (v0_) ∧ Kd.R (Kd.int .i64) 3 w' w.heap.size (fun _ => True) v0_ r ∧ Below w.heap.size w w' := by
  unfold breaks_All.f at h
  by_cases b0 : l0.length ≤ 1099511627776
  case neg => rw [if_neg b0] at h; cases h
  rw [if_pos b0] at h
  replace h := Option.bind_eq_some_iff.1 h
  obtain ⟨c, hc, h⟩ := h
  by_cases b1 : c.length = l0.length
  case neg => rw [if_neg b1] at h; cases h
  rw [if_pos b1] at h
  have HX := Aside0.mk (Option.some.inj h)
  clear h
  have HL := Aside0.mk b1
  have HM := Aside0.mk b0
  have HCC := breaks_Counts.calls _ A0 c0 l0 c w hr0 hc0 hc
  have HR0 := Aside0.mk hr0
  clear hr0 hc b0 b1
  have hu34 := Try.underlying34
  go_enter Try.func9, Try.ntmps9
  go_wp2_with fail
  refine HCC.mono ?_
  rintro e w1 ⟨vc, rfl, hR, hb1⟩
  obtain ⟨Ac, cp, e1⟩ := Kd.R_slice hR
  subst e1
  have HRC := Aside0.mk (Kd.R_reads' hR).2.2
  have HB1 := Aside0.mk hb1
  have HR1 := Aside0.mk (Kd.C_below HR0.out hb1)
  clear hR hb1 HCC HR0
  go_wp2
  go_loopg [4, 5, 17] c.length (fun d v4 v5 v17 w' => ∃ (out : List Int) (a : Int) (i : Nat), v5 = .int .i64 a ∧ v17 = .int .i64 (i : Int) ∧ Aside0 (i + d = c.length) ∧ Aside0 (allL l0 c d out a i = r) ∧ Aside0 (out.length = i) ∧ Aside0 (Kd.R (Kd.int .i64) 3 w' w1.heap.size (fun _ => True) v4 out) ∧ Aside0 (Below w1.heap.size w1 w'))
  case atStart => exact ⟨[], 11, 0, rfl, rfl, ⟨by omega⟩, HX, ⟨rfl⟩, ⟨Kd.R_nil _ _ _ _ _⟩, ⟨Below.refl _ _⟩⟩
  case round =>
    obtain ⟨out, a, i, rfl, rfl, HI, HA, HO, HW, HB⟩ := hrel
    by_cases cl : i < c.length
    · obtain ⟨d, rfl⟩ : ∃ d, gk = d + 1 := ⟨gk - 1, by have := HI.out; omega⟩
      have HD := Aside0.mk cl
      have HWR : Aside0 (wrap64 ((i : Int) + 1) = ((i + 1 : Nat) : Int)) := ⟨by unfold wrap64; have := HL.out; have := HM.out; omega⟩
      have hi0 : (0 : Int) ≤ (i : Int) := by omega
      have cb : decide (i < c.length) = true := decide_eq_true cl
      obtain ⟨ad, e, hx0⟩ := Kd.at_int (Kd.C_below HRC.out HB.out) (i : Int) (by omega) (by omega)
      cases e
      simp only [Int.toNat_natCast] at hx0
      replace cl := eq_true cl
      by_cases hd : d = 0
      · subst hd
        have hl : (wrap64 ((i : Int) + 1) == (c.length : Int)) = true := by rw [HWR.out]; have := HI.out; simp; omega
        cases hs : (rd c i != 8)
        · go_wp2_with (first | ((with_reducible refine gate_builtin (b := .append) (xs := #[.tmp 30, .tmp 31]) rfl ?_); at_builtin; refine Kd.R_append (Kd.int .i64) (w0 := w1) w1.heap.size rfl (.tmp 30) (.tmp 31) 25 3 (.int .i64 0) 8 rfl Try.underlying25 info3 rfl (by decide) (by omega) u4 out 2 [.int .i64 2] (fun _ => True) (fun _ => False) rfl rfl ?aP (fun _ hk => hk.elim) ?aF ?aO ?aB ?aS ?aL ?_; (case aP => exact rfl); (case aB => exact (by repeat (first | (with_reducible first | exact HB.out | apply below_alloc | apply pw_below_drewN | apply below_drew1) | exact HB.out))); (case aF => exact (fun _ _ => trivial)); (case aO => exact (by (with_reducible repeat (first | apply Kd.R_alloc | apply Kd.R_drewN | apply Kd.R_drew)); exact HW.out)); (case aS => exact (below_size (by repeat (first | (with_reducible first | exact HB.out | apply below_alloc | apply pw_below_drewN | apply below_drew1) | exact HB.out)))); (case aL => have := HO.out; have := HD.out; have := HL.out; have := HM.out; omega); intro v9 w9 ho hb hg hat; have HB9 := Aside0.mk hb; have HO9 := Aside0.mk ho; clear ho hb hg hat))
          go_ret
          have hA := HA.out
          simp only [allL, if_true] at hA
          exact ⟨_, rfl, by rw [← hA]; exact Kd.R_lower HO9.out (below_size HB1.out), below_step HB1.out HB9.out⟩
        · go_wp2_with (first | ((with_reducible refine gate_builtin (b := .append) (xs := #[.tmp 30, .tmp 31]) rfl ?_); at_builtin; refine Kd.R_append (Kd.int .i64) (w0 := w1) w1.heap.size rfl (.tmp 30) (.tmp 31) 25 3 (.int .i64 0) 8 rfl Try.underlying25 info3 rfl (by decide) (by omega) u4 out 2 [.int .i64 2] (fun _ => True) (fun _ => False) rfl rfl ?aP (fun _ hk => hk.elim) ?aF ?aO ?aB ?aS ?aL ?_; (case aP => exact rfl); (case aB => exact (by repeat (first | (with_reducible first | exact HB.out | apply below_alloc | apply pw_below_drewN | apply below_drew1) | exact HB.out))); (case aF => exact (fun _ _ => trivial)); (case aO => exact (by (with_reducible repeat (first | apply Kd.R_alloc | apply Kd.R_drewN | apply Kd.R_drew)); exact HW.out)); (case aS => exact (below_size (by repeat (first | (with_reducible first | exact HB.out | apply below_alloc | apply pw_below_drewN | apply below_drew1) | exact HB.out)))); (case aL => have := HO.out; have := HD.out; have := HL.out; have := HM.out; omega); intro v9 w9 ho hb hg hat; have HB9 := Aside0.mk hb; have HO9 := Aside0.mk ho; clear ho hb hg hat))
          go_ret
          have hA := HA.out
          simp only [allL, if_true] at hA
          exact ⟨_, rfl, by rw [← hA]; exact Kd.R_lower HO9.out (below_size HB1.out), below_step HB1.out HB9.out⟩
      · have hl : (wrap64 ((i : Int) + 1) == (c.length : Int)) = false := by rw [HWR.out]; have := HI.out; simp; omega
        have w0 : IntKind.i64.wrap ((i : Int) + 1) = (i : Int) + 1 := by rw [IntWalk.i64_left, HWR.out]; omega
        have p1 : 0 ≤ (i : Int) + 1 := by omega
        have q1 : (i : Int) + 1 < (c.length : Int) := by have := HI.out; omega
        have q2 : (i : Int) + 1 < (l0.length : Int) := by rw [← HL.out]; exact q1
        obtain ⟨ad1, e1, hx1⟩ := Kd.at_int (Kd.C_below HRC.out HB.out) ((i : Int) + 1) p1 q1
        obtain rfl : ad = ad1 := (by injection e1)
        obtain ⟨ad2, e2, hx2⟩ := Kd.at_int (Kd.C_below HR1.out HB.out) ((i : Int) + 1) p1 q2
        cases e2
        have et : ((i : Int) + 1).toNat = i + 1 := by omega
        rw [et, add_suc] at hx1 hx2
        cases hs : (rd c i != 8)
        · have HV := HA
          have HVV : Aside0 (allL l0 c d (out ++ [(verd (rd c i) (rd c ((i : Int) + 1)) (rd l0 ((i : Int) + 1) == 10) a 10 0)]) a (i + 1) = r) := ⟨by have h9 := HA.out; simp only [allL, if_neg hd, ahdW, hs, if_true, Bool.false_eq_true, if_false, show ((i + 1 : Nat) : Int) = (i : Int) + 1 by omega] at h9; exact h9⟩
          clear HV
          go_wp2
          go_region_held3 (fun w' => w'.cell? ⟨ad.block, ad.off + (i + 1), none⟩ = some (.int .i64 (rd c ((i : Int) + 1))) ∧ w'.cell? ⟨ad2.block, ad2.off + (i + 1), none⟩ = some (.int .i64 (rd l0 ((i : Int) + 1)))) (go_keep) (fail)
          have hP := blk_drew (blk_new wr (.cells #[.int .i64 (rd c i), .int .i64 (rd c ((i : Int) + 1)), .bool (rd l0 ((i : Int) + 1) == 10), .int .i64 a] 34))
          have HP2 := Aside0.mk hP
          clear hP
          go_wp2_with fail
          refine (rules_calls _).mono ?_
          rintro e w2 ⟨S, rfl, hS, hb2⟩
          have HP := Aside0.mk (blk_below HP2.out hb2)
          have HS := Aside0.mk hS
          have HB2 := Aside0.mk (below_step (below_drew1 (below_alloc (Below.refl _ wr) _)) hb2)
          clear hS hb2
          have hdl : ((wrap64 ((i : Int) + 1)) = ((i + 1 : Nat) : Int)) := HWR.out
          clear hdl
          clear hl p1 q1 q2 hx0 hx1 hx2 et hs
          go_wp2
          obtain ⟨wo, rfl⟩ : ∃ wo : World, wo = wr := ⟨_, rfl⟩
          go_loopg [9, 49] 10 (fun dq v9 v49 w' => ∃ (j : Nat), v49 = .int .i64 (j : Int) ∧ v9 = .int .i64 1 ∧ Aside0 (j + dq = 10) ∧ Aside0 (verd (rd c i) (rd c ((i : Int) + 1)) (rd l0 ((i : Int) + 1) == 10) a dq j = (verd (rd c i) (rd c ((i : Int) + 1)) (rd l0 ((i : Int) + 1) == 10) a 10 0)) ∧ Aside0 (Below w2.heap.size w2 w'))
          case atStart => exact ⟨0, rfl, rfl, ⟨rfl⟩, ⟨rfl⟩, ⟨Below.refl _ _⟩⟩
          case round =>
            obtain ⟨j, rfl, rfl, HJ, HV, HBB⟩ := hrel
            have HB5 := Aside0.mk (below_step HB.out (below_step HB2.out HBB.out))
            have HW5 := Aside0.mk (Kd.R_below HW.out (below_step HB2.out HBB.out))
            by_cases hj : j < 10
            · obtain ⟨dj, rfl⟩ : ∃ dj, gk = dj + 1 := ⟨gk - 1, by have := HJ.out; omega⟩
              obtain ⟨vj, hvj, hsj⟩ := HS.out j hj
              obtain ⟨Bs, Bh, rfl, h1, h2⟩ := hsj.below HBB.out
              have hsa := said_calls (gL j) (ruleP j) (rl_calls j hj) (gL_eg j) (howL j) (rd c i) (rd c ((i : Int) + 1)) (rd l0 ((i : Int) + 1) == 10) a Bs Bh wr h1 h2
              have hvj2 := (HBB.out.cell (p := ⟨S, j, none⟩) (World.block_lt_of_cell? _ _ hvj)).trans hvj
              have hp := blk_below HP.out HBB.out
              have k0 := cI hp 0 rfl
              have k1 := cI hp 1 rfl
              have k2 := cI hp 2 rfl
              have k3 := cI hp 3 rfl
              have HJJ := Aside0.mk hj
              have cj : decide ((j : Int) < 10) = true := decide_eq_true (by omega)
              have cj0 : (0 : Int) ≤ (j : Int) := by omega
              have cj2 : (j : Int) < 10 := by omega
              clear hvj hsj hp h1 h2
              go_wp2_with fail
              refine hsa.mono ?_
              rintro e w3 ⟨rfl, hb3⟩
              have N1 := Aside0.mk (below_step HBB.out hb3)
              have N2 := Aside0.mk (below_step HB5.out hb3)
              have N3 := Aside0.mk (Kd.R_below HW5.out hb3)
              clear HBB HB5 HW5 hb3 hvj2 k0 k1 k2 k3 hsa
              have HBB := N1
              have HB5 := N2
              have HW5 := N3
              clear N1 N2 N3
              cases hq : ruleP j (rd c i) (rd c ((i : Int) + 1)) (rd l0 ((i : Int) + 1) == 10) a
              · have HV2 : Aside0 (verd (rd c i) (rd c ((i : Int) + 1)) (rd l0 ((i : Int) + 1) == 10) a dj (j + 1) = (verd (rd c i) (rd c ((i : Int) + 1)) (rd l0 ((i : Int) + 1) == 10) a 10 0)) := ⟨by have h9 := HV.out; rw [verd_at, hq] at h9; exact h9⟩
                have sw : saidW false (howL j) = -1 := rfl
                rw [sw]
                clear hq HV sw
                go_wp2
                go_roundg dj
                case measure => omega
                case rel => exact ⟨j + 1, by rw [show ((j : Int) + 1) = ((j + 1 : Nat) : Int) by omega], rfl, ⟨by have := HJ.out; omega⟩, HV2, HBB⟩
              · have HV2 : Aside0 (howL j = (verd (rd c i) (rd c ((i : Int) + 1)) (rd l0 ((i : Int) + 1) == 10) a 10 0)) := ⟨by have h9 := HV.out; rw [verd_at, hq] at h9; exact h9⟩
                have sw : saidW true (howL j) = howL j := rfl
                rw [sw]
                have hne := howL_ne j
                obtain ⟨V, hV⟩ : ∃ V, howL j = V := ⟨_, rfl⟩
                rw [hV] at HV2 hne ⊢
                rw [← HV2.out] at HVV
                clear hq HV sw HV2 hV
                go_wp2_with (first | ((with_reducible refine gate_builtin (b := .append) (xs := #[.tmp 60, .tmp 62]) rfl ?_); at_builtin; refine Kd.R_append (Kd.int .i64) (w0 := w1) w1.heap.size rfl (.tmp 60) (.tmp 62) 25 3 (.int .i64 0) 8 rfl Try.underlying25 info3 rfl (by decide) (by omega) u4 out V [.int .i64 V] (fun _ => True) (fun _ => False) rfl rfl ?aP (fun _ hk => hk.elim) ?aF ?aO ?aB ?aS ?aL ?_; (case aP => exact rfl); (case aB => exact (by repeat (first | (with_reducible first | exact HB5.out | apply below_alloc | apply pw_below_drewN | apply below_drew1) | exact HB5.out))); (case aF => exact (fun _ _ => trivial)); (case aO => exact (by (with_reducible repeat (first | apply Kd.R_alloc | apply Kd.R_drewN | apply Kd.R_drew)); exact HW5.out)); (case aS => exact (below_size (by repeat (first | (with_reducible first | exact HB5.out | apply below_alloc | apply pw_below_drewN | apply below_drew1) | exact HB5.out)))); (case aL => have := HO.out; have := HD.out; have := HL.out; have := HM.out; omega); intro v9 w9 ho hb hg hat; have HB9 := Aside0.mk hb; have HO9 := Aside0.mk ho; clear ho hb hg hat))
                go_roundg d
                case measure => omega
                case rel => exact ⟨_, a, i + 1, rfl, by rw [show ((i : Int) + 1) = ((i + 1 : Nat) : Int) by omega], ⟨by have := HI.out; omega⟩, ⟨HVV.out⟩, ⟨by have := HO.out; simp; omega⟩, ⟨HO9.out⟩, ⟨HB9.out⟩⟩
            · have HV2 : Aside0 ((1 : Int) = (verd (rd c i) (rd c ((i : Int) + 1)) (rd l0 ((i : Int) + 1) == 10) a 10 0)) := ⟨by have h9 := HV.out; have e0 : gk = 0 := (by have := HJ.out; omega); subst e0; exact h9⟩
              have cj : decide ((j : Int) < 10) = false := decide_eq_false (by omega)
              have cj2 : ¬ (j : Int) < 10 := by omega
              rw [← HV2.out] at HVV
              clear HV HV2 hj
              go_wp2_with (first | ((with_reducible refine gate_builtin (b := .append) (xs := #[.tmp 60, .tmp 62]) rfl ?_); at_builtin; refine Kd.R_append (Kd.int .i64) (w0 := w1) w1.heap.size rfl (.tmp 60) (.tmp 62) 25 3 (.int .i64 0) 8 rfl Try.underlying25 info3 rfl (by decide) (by omega) u4 out 1 [.int .i64 1] (fun _ => True) (fun _ => False) rfl rfl ?aP (fun _ hk => hk.elim) ?aF ?aO ?aB ?aS ?aL ?_; (case aP => exact rfl); (case aB => exact (by repeat (first | (with_reducible first | exact HB5.out | apply below_alloc | apply pw_below_drewN | apply below_drew1) | exact HB5.out))); (case aF => exact (fun _ _ => trivial)); (case aO => exact (by (with_reducible repeat (first | apply Kd.R_alloc | apply Kd.R_drewN | apply Kd.R_drew)); exact HW5.out)); (case aS => exact (below_size (by repeat (first | (with_reducible first | exact HB5.out | apply below_alloc | apply pw_below_drewN | apply below_drew1) | exact HB5.out)))); (case aL => have := HO.out; have := HD.out; have := HL.out; have := HM.out; omega); intro v9 w9 ho hb hg hat; have HB9 := Aside0.mk hb; have HO9 := Aside0.mk ho; clear ho hb hg hat))
              go_roundg d
              case measure => omega
              case rel => exact ⟨_, a, i + 1, rfl, by rw [show ((i : Int) + 1) = ((i + 1 : Nat) : Int) by omega], ⟨by have := HI.out; omega⟩, ⟨HVV.out⟩, ⟨by have := HO.out; simp; omega⟩, ⟨HO9.out⟩, ⟨HB9.out⟩⟩
        · have HV := HA
          have HVV : Aside0 (allL l0 c d (out ++ [(verd (rd c i) (rd c ((i : Int) + 1)) (rd l0 ((i : Int) + 1) == 10) (rd c i) 10 0)]) (rd c i) (i + 1) = r) := ⟨by have h9 := HA.out; simp only [allL, if_neg hd, ahdW, hs, if_true, Bool.false_eq_true, if_false, show ((i + 1 : Nat) : Int) = (i : Int) + 1 by omega] at h9; exact h9⟩
          clear HV
          go_wp2
          go_region_held3 (fun w' => w'.cell? ⟨ad.block, ad.off + (i + 1), none⟩ = some (.int .i64 (rd c ((i : Int) + 1))) ∧ w'.cell? ⟨ad2.block, ad2.off + (i + 1), none⟩ = some (.int .i64 (rd l0 ((i : Int) + 1)))) (go_keep) (fail)
          have hP := blk_drew (blk_new wr (.cells #[.int .i64 (rd c i), .int .i64 (rd c ((i : Int) + 1)), .bool (rd l0 ((i : Int) + 1) == 10), .int .i64 (rd c i)] 34))
          have HP2 := Aside0.mk hP
          clear hP
          go_wp2_with fail
          refine (rules_calls _).mono ?_
          rintro e w2 ⟨S, rfl, hS, hb2⟩
          have HP := Aside0.mk (blk_below HP2.out hb2)
          have HS := Aside0.mk hS
          have HB2 := Aside0.mk (below_step (below_drew1 (below_alloc (Below.refl _ wr) _)) hb2)
          clear hS hb2
          have hdl : ((wrap64 ((i : Int) + 1)) = ((i + 1 : Nat) : Int)) := HWR.out
          clear hdl
          clear hl p1 q1 q2 hx0 hx1 hx2 et hs
          go_wp2
          obtain ⟨wo, rfl⟩ : ∃ wo : World, wo = wr := ⟨_, rfl⟩
          go_loopg [9, 49] 10 (fun dq v9 v49 w' => ∃ (j : Nat), v49 = .int .i64 (j : Int) ∧ v9 = .int .i64 1 ∧ Aside0 (j + dq = 10) ∧ Aside0 (verd (rd c i) (rd c ((i : Int) + 1)) (rd l0 ((i : Int) + 1) == 10) (rd c i) dq j = (verd (rd c i) (rd c ((i : Int) + 1)) (rd l0 ((i : Int) + 1) == 10) (rd c i) 10 0)) ∧ Aside0 (Below w2.heap.size w2 w'))
          case atStart => exact ⟨0, rfl, rfl, ⟨rfl⟩, ⟨rfl⟩, ⟨Below.refl _ _⟩⟩
          case round =>
            obtain ⟨j, rfl, rfl, HJ, HV, HBB⟩ := hrel
            have HB5 := Aside0.mk (below_step HB.out (below_step HB2.out HBB.out))
            have HW5 := Aside0.mk (Kd.R_below HW.out (below_step HB2.out HBB.out))
            by_cases hj : j < 10
            · obtain ⟨dj, rfl⟩ : ∃ dj, gk = dj + 1 := ⟨gk - 1, by have := HJ.out; omega⟩
              obtain ⟨vj, hvj, hsj⟩ := HS.out j hj
              obtain ⟨Bs, Bh, rfl, h1, h2⟩ := hsj.below HBB.out
              have hsa := said_calls (gL j) (ruleP j) (rl_calls j hj) (gL_eg j) (howL j) (rd c i) (rd c ((i : Int) + 1)) (rd l0 ((i : Int) + 1) == 10) (rd c i) Bs Bh wr h1 h2
              have hvj2 := (HBB.out.cell (p := ⟨S, j, none⟩) (World.block_lt_of_cell? _ _ hvj)).trans hvj
              have hp := blk_below HP.out HBB.out
              have k0 := cI hp 0 rfl
              have k1 := cI hp 1 rfl
              have k2 := cI hp 2 rfl
              have k3 := cI hp 3 rfl
              have HJJ := Aside0.mk hj
              have cj : decide ((j : Int) < 10) = true := decide_eq_true (by omega)
              have cj0 : (0 : Int) ≤ (j : Int) := by omega
              have cj2 : (j : Int) < 10 := by omega
              clear hvj hsj hp h1 h2
              go_wp2_with fail
              refine hsa.mono ?_
              rintro e w3 ⟨rfl, hb3⟩
              have N1 := Aside0.mk (below_step HBB.out hb3)
              have N2 := Aside0.mk (below_step HB5.out hb3)
              have N3 := Aside0.mk (Kd.R_below HW5.out hb3)
              clear HBB HB5 HW5 hb3 hvj2 k0 k1 k2 k3 hsa
              have HBB := N1
              have HB5 := N2
              have HW5 := N3
              clear N1 N2 N3
              cases hq : ruleP j (rd c i) (rd c ((i : Int) + 1)) (rd l0 ((i : Int) + 1) == 10) (rd c i)
              · have HV2 : Aside0 (verd (rd c i) (rd c ((i : Int) + 1)) (rd l0 ((i : Int) + 1) == 10) (rd c i) dj (j + 1) = (verd (rd c i) (rd c ((i : Int) + 1)) (rd l0 ((i : Int) + 1) == 10) (rd c i) 10 0)) := ⟨by have h9 := HV.out; rw [verd_at, hq] at h9; exact h9⟩
                have sw : saidW false (howL j) = -1 := rfl
                rw [sw]
                clear hq HV sw
                go_wp2
                go_roundg dj
                case measure => omega
                case rel => exact ⟨j + 1, by rw [show ((j : Int) + 1) = ((j + 1 : Nat) : Int) by omega], rfl, ⟨by have := HJ.out; omega⟩, HV2, HBB⟩
              · have HV2 : Aside0 (howL j = (verd (rd c i) (rd c ((i : Int) + 1)) (rd l0 ((i : Int) + 1) == 10) (rd c i) 10 0)) := ⟨by have h9 := HV.out; rw [verd_at, hq] at h9; exact h9⟩
                have sw : saidW true (howL j) = howL j := rfl
                rw [sw]
                have hne := howL_ne j
                obtain ⟨V, hV⟩ : ∃ V, howL j = V := ⟨_, rfl⟩
                rw [hV] at HV2 hne ⊢
                rw [← HV2.out] at HVV
                clear hq HV sw HV2 hV
                go_wp2_with (first | ((with_reducible refine gate_builtin (b := .append) (xs := #[.tmp 60, .tmp 62]) rfl ?_); at_builtin; refine Kd.R_append (Kd.int .i64) (w0 := w1) w1.heap.size rfl (.tmp 60) (.tmp 62) 25 3 (.int .i64 0) 8 rfl Try.underlying25 info3 rfl (by decide) (by omega) u4 out V [.int .i64 V] (fun _ => True) (fun _ => False) rfl rfl ?aP (fun _ hk => hk.elim) ?aF ?aO ?aB ?aS ?aL ?_; (case aP => exact rfl); (case aB => exact (by repeat (first | (with_reducible first | exact HB5.out | apply below_alloc | apply pw_below_drewN | apply below_drew1) | exact HB5.out))); (case aF => exact (fun _ _ => trivial)); (case aO => exact (by (with_reducible repeat (first | apply Kd.R_alloc | apply Kd.R_drewN | apply Kd.R_drew)); exact HW5.out)); (case aS => exact (below_size (by repeat (first | (with_reducible first | exact HB5.out | apply below_alloc | apply pw_below_drewN | apply below_drew1) | exact HB5.out)))); (case aL => have := HO.out; have := HD.out; have := HL.out; have := HM.out; omega); intro v9 w9 ho hb hg hat; have HB9 := Aside0.mk hb; have HO9 := Aside0.mk ho; clear ho hb hg hat))
                go_roundg d
                case measure => omega
                case rel => exact ⟨_, (rd c i), i + 1, rfl, by rw [show ((i : Int) + 1) = ((i + 1 : Nat) : Int) by omega], ⟨by have := HI.out; omega⟩, ⟨HVV.out⟩, ⟨by have := HO.out; simp; omega⟩, ⟨HO9.out⟩, ⟨HB9.out⟩⟩
            · have HV2 : Aside0 ((1 : Int) = (verd (rd c i) (rd c ((i : Int) + 1)) (rd l0 ((i : Int) + 1) == 10) (rd c i) 10 0)) := ⟨by have h9 := HV.out; have e0 : gk = 0 := (by have := HJ.out; omega); subst e0; exact h9⟩
              have cj : decide ((j : Int) < 10) = false := decide_eq_false (by omega)
              have cj2 : ¬ (j : Int) < 10 := by omega
              rw [← HV2.out] at HVV
              clear HV HV2 hj
              go_wp2_with (first | ((with_reducible refine gate_builtin (b := .append) (xs := #[.tmp 60, .tmp 62]) rfl ?_); at_builtin; refine Kd.R_append (Kd.int .i64) (w0 := w1) w1.heap.size rfl (.tmp 60) (.tmp 62) 25 3 (.int .i64 0) 8 rfl Try.underlying25 info3 rfl (by decide) (by omega) u4 out 1 [.int .i64 1] (fun _ => True) (fun _ => False) rfl rfl ?aP (fun _ hk => hk.elim) ?aF ?aO ?aB ?aS ?aL ?_; (case aP => exact rfl); (case aB => exact (by repeat (first | (with_reducible first | exact HB5.out | apply below_alloc | apply pw_below_drewN | apply below_drew1) | exact HB5.out))); (case aF => exact (fun _ _ => trivial)); (case aO => exact (by (with_reducible repeat (first | apply Kd.R_alloc | apply Kd.R_drewN | apply Kd.R_drew)); exact HW5.out)); (case aS => exact (below_size (by repeat (first | (with_reducible first | exact HB5.out | apply below_alloc | apply pw_below_drewN | apply below_drew1) | exact HB5.out)))); (case aL => have := HO.out; have := HD.out; have := HL.out; have := HM.out; omega); intro v9 w9 ho hb hg hat; have HB9 := Aside0.mk hb; have HO9 := Aside0.mk ho; clear ho hb hg hat))
              go_roundg d
              case measure => omega
              case rel => exact ⟨_, (rd c i), i + 1, rfl, by rw [show ((i : Int) + 1) = ((i + 1 : Nat) : Int) by omega], ⟨by have := HI.out; omega⟩, ⟨HVV.out⟩, ⟨by have := HO.out; simp; omega⟩, ⟨HO9.out⟩, ⟨HB9.out⟩⟩
    · have hx := HA.out
      obtain rfl : gk = 0 := by have := HI.out; omega
      have cb : decide (i < c.length) = false := decide_eq_false cl
      simp only [allL] at hx
      go_wp2
      go_ret
      exact ⟨_, rfl, by rw [← hx]; exact Kd.R_lower HW.out (below_size HB1.out), below_step HB1.out HB.out⟩
end Go.Proofs.Ytbcflgiapiclgaa.P
