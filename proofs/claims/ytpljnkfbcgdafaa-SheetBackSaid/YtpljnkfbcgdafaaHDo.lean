/- An act of both sheets. -/
import Derived.Test.YtpljnkfbcgdafaaHTwo
namespace Go.Proofs.Ytpljnkfbcgdafaa.P
open Go.RowKit Go.Shelf Go.Proofs.YtpljnkfbcgdafaaW.PrintWords Go.Proofs.YtpljnkfbcgdafaaW.PrintLast Go.Proofs.YtpljnkfbcgdafaaW.PrintMore
set_option linter.unusedVariables false
set_option linter.unusedSimpArgs false

theorem do_tail {B p mb g : Nat} {w V w2 w3 : World} (h1 : Below B w V) (h2 : V.drew.grownBy w2 (some mb)) (h3 : w2.grownBy w3 (some g)) (hb : B ≤ p ∧ B ≤ mb ∧ B ≤ g ∧ B ≤ w.heap.size) : Below B w w3 := by
  have h4 : V.drew.heap.size = V.heap.size := rfl
  have h5 := h1.size
  have h6 := h2.size
  exact (h1.trans (below_drew1 (Below.refl _ _))).trans ((below_gr h2 hb.2.1 (by omega)).trans (below_gr h3 hb.2.2.1 (by omega)))
set_option maxHeartbeats 8000000 in
set_option maxRecDepth 100000 in
theorem do_clear (B p mb g : Nat) (W H : Int) (n : Nat) (X Y Rw Rh ow : Int) (w : World) (h : Two B w p mb g W H n) (hn : n ≤ 60) :
    Calls Try.prog 10 #[.agg #[.bool true, .int .i64 X, .int .i64 Y, .int .i64 Rw, .int .i64 Rh, .int .i64 ow], .pointer (some ⟨p, 0, none⟩), .pointer (some ⟨g, 0, none⟩)] w fun e w' =>
      ∃ b : Bool, e = .returned (.bool b) ∧ Two B w' p mb g W H (n + 1) ∧ Below B w w' := by
  have hu34 := Try.underlying34
  have hu32 := Try.underlying32
  have hN := Aside0.mk hn
  obtain ⟨⟨es, hs, hi⟩, ⟨l, hr, hl⟩, hb⟩ := h
  have hbx := blk_new w (.cells #[.bool true, .int .i64 X, .int .i64 Y, .int .i64 Rw, .int .i64 Rh, .int .i64 ow] 34)
  have HS := Aside0.mk (hs.below (below_alloc (Below.refl w.heap.size w) (.cells #[.bool true, .int .i64 X, .int .i64 Y, .int .i64 Rw, .int .i64 Rh, .int .i64 ow] 34)))
  have HR := Aside0.mk (hr.below (below_alloc (Below.refl w.heap.size w) (.cells #[.bool true, .int .i64 X, .int .i64 Y, .int .i64 Rw, .int .i64 Rh, .int .i64 ow] 34)))
  have HI := Aside0.mk hi
  have HL := Aside0.mk hl
  have HB := Aside0.mk hb
  have HLT := Aside0.mk (show p < w.heap.size ∧ mb < w.heap.size ∧ g < w.heap.size from ⟨hs.lt, hs.own.lt, hr.lt⟩)
  have HBX := Aside0.mk hbx
  have c0 := cI hbx 0 (v := .bool true) rfl
  have c5 := cI hbx 5 (v := .int .i64 ow) rfl
  have HBW := Aside0.mk ((below_alloc (Below.refl w.heap.size w) (.cells #[.bool true, .int .i64 X, .int .i64 Y, .int .i64 Rw, .int .i64 Rh, .int .i64 ow] 34)).mono hb.2.2.2)
  clear hs hi hr hl hb hbx hn
  go_enter Try.func10, Try.ntmps10
  go_upto_region 2 with (fail)
  obtain ⟨V, hV⟩ : ∃ V, w.alloc (.cells #[.bool true, .int .i64 X, .int .i64 Y, .int .i64 Rw, .int .i64 Rh, .int .i64 ow] 34) = V := ⟨_, rfl⟩
  rw [hV] at HS HR HBX HBW c0 c5 ⊢
  clear hV c0
  go_region_with (first
    | (go_at_call 21; refine (ClearA.calls p mb W H es ow n _ (HS.out.drewN _) HI.out hN.out).mono ?_; rintro e w2 ⟨r, es2, rfl, hs2, hi2, hg2⟩; have HS2 := Aside0.mk hs2; have HI2 := Aside0.mk hi2; have HG2 := Aside0.mk hg2; have hb2 := (hg2.block w.heap.size (blk_lt HBX.out) (by have := HLT.out; simp; omega)).trans HBX.out; have HBX2 := Aside0.mk hb2; have c5' := cI hb2 5 (v := .int .i64 ow) rfl; have hr2 := (HR.out.below (pw_below_drewN (Below.refl _ _) _)).far (HS.out.own.obj.choose_spec.choose_spec) hg2; have HR2 := Aside0.mk hr2; clear hs2 hi2 hg2 hb2 hr2)
    | (go_at_call 23; refine (RClearA.calls g W H l ow n _ HR2.out HL.out hN.out).mono ?_; rintro e w3 ⟨r3, l3, rfl, hr3, hl3, hg3⟩; have HR3 := Aside0.mk hr3; have HL3 := Aside0.mk hl3; have HG3 := Aside0.mk hg3; clear hr3 hl3 hg3))
  all_goals go_wp2
  all_goals go_ret
  all_goals refine ⟨_, rfl, ⟨⟨es2, HS2.out.far HR2.out.obj.choose_spec HG3.out, HI2.out⟩, ⟨l3, HR3.out, HL3.out⟩, ?_⟩, ?_⟩
  all_goals first
    | exact ⟨HB.out.1, HB.out.2.1, HB.out.2.2.1, by have h1 := HBW.out.size; have h2 := HG2.out.size; have h3 := HG3.out.size; have h4 := HB.out.2.2.2; have h5 : V.drew.heap.size = V.heap.size := rfl; first | omega | (change V.heap.size ≤ _ at h2; omega)⟩
    | exact do_tail HBW.out HG2.out HG3.out HB.out
set_option maxHeartbeats 8000000 in
set_option maxRecDepth 100000 in
theorem do_take (B p mb g : Nat) (W H : Int) (n : Nat) (X Y Rw Rh ow : Int) (w : World) (h : Two B w p mb g W H n) (hn : n ≤ 60) (hW : 1 ≤ W ∧ W ≤ 16) (hH : 1 ≤ H ∧ H ≤ 16) (ho : ow ≠ 1048576) :
    Calls Try.prog 10 #[.agg #[.bool false, .int .i64 X, .int .i64 Y, .int .i64 Rw, .int .i64 Rh, .int .i64 ow], .pointer (some ⟨p, 0, none⟩), .pointer (some ⟨g, 0, none⟩)] w fun e w' =>
      ∃ b : Bool, e = .returned (.bool b) ∧ Two B w' p mb g W H (n + 1) ∧ Below B w w' := by
  have hu34 := Try.underlying34
  have hu32 := Try.underlying32
  have hN := Aside0.mk hn
  have HWW := Aside0.mk hW
  have HHH := Aside0.mk hH
  have HOW := Aside0.mk ho
  clear hW hH ho
  obtain ⟨⟨es, hs, hi⟩, ⟨l, hr, hl⟩, hb⟩ := h
  have hbx := blk_new w (.cells #[.bool false, .int .i64 X, .int .i64 Y, .int .i64 Rw, .int .i64 Rh, .int .i64 ow] 34)
  have HS := Aside0.mk (hs.below (below_alloc (Below.refl w.heap.size w) (.cells #[.bool false, .int .i64 X, .int .i64 Y, .int .i64 Rw, .int .i64 Rh, .int .i64 ow] 34)))
  have HR := Aside0.mk (hr.below (below_alloc (Below.refl w.heap.size w) (.cells #[.bool false, .int .i64 X, .int .i64 Y, .int .i64 Rw, .int .i64 Rh, .int .i64 ow] 34)))
  have HI := Aside0.mk hi
  have HL := Aside0.mk hl
  have HB := Aside0.mk hb
  have HLT := Aside0.mk (show p < w.heap.size ∧ mb < w.heap.size ∧ g < w.heap.size from ⟨hs.lt, hs.own.lt, hr.lt⟩)
  have HBX := Aside0.mk hbx
  have c0 := cI hbx 0 (v := .bool false) rfl
  have c1 := cI hbx 1 (v := .int .i64 X) rfl
  have c2 := cI hbx 2 (v := .int .i64 Y) rfl
  have c3 := cI hbx 3 (v := .int .i64 Rw) rfl
  have c4 := cI hbx 4 (v := .int .i64 Rh) rfl
  have c5 := cI hbx 5 (v := .int .i64 ow) rfl
  have HBW := Aside0.mk ((below_alloc (Below.refl w.heap.size w) (.cells #[.bool false, .int .i64 X, .int .i64 Y, .int .i64 Rw, .int .i64 Rh, .int .i64 ow] 34)).mono hb.2.2.2)
  clear hs hi hr hl hb hbx hn
  go_enter Try.func10, Try.ntmps10
  go_upto_region 3 with (fail)
  obtain ⟨V, hV⟩ : ∃ V, w.alloc (.cells #[.bool false, .int .i64 X, .int .i64 Y, .int .i64 Rw, .int .i64 Rh, .int .i64 ow] 34) = V := ⟨_, rfl⟩
  rw [hV] at HS HR HBX HBW c0 c1 c2 c3 c4 c5 ⊢
  clear hV c0
  go_region_with (first
    | (go_at_call 20; refine (TakeA.calls p mb W H es X Y Rw Rh ow n _ (HS.out.drewN _) HWW.out HHH.out HI.out hN.out HOW.out).mono ?_; rintro e w2 ⟨r, es2, rfl, hs2, hi2, hg2⟩; have HS2 := Aside0.mk hs2; have HI2 := Aside0.mk hi2; have HG2 := Aside0.mk hg2; have hb2 := (hg2.block w.heap.size (blk_lt HBX.out) (by have := HLT.out; simp; omega)).trans HBX.out; have HBX2 := Aside0.mk hb2; have c1' := cI hb2 1 (v := .int .i64 X) rfl; have c2' := cI hb2 2 (v := .int .i64 Y) rfl; have c3' := cI hb2 3 (v := .int .i64 Rw) rfl; have c4' := cI hb2 4 (v := .int .i64 Rh) rfl; have c5' := cI hb2 5 (v := .int .i64 ow) rfl; have hr2 := (HR.out.below (pw_below_drewN (Below.refl _ _) _)).far (HS.out.own.obj.choose_spec.choose_spec) hg2; have HR2 := Aside0.mk hr2; clear hs2 hi2 hg2 hb2 hr2)
    | (go_at_call 24; refine (RTakeA.calls g W H l X Y Rw Rh ow n _ HR2.out HWW.out HHH.out HL.out hN.out).mono ?_; rintro e w3 ⟨r3, l3, rfl, hr3, hl3, hg3⟩; have HR3 := Aside0.mk hr3; have HL3 := Aside0.mk hl3; have HG3 := Aside0.mk hg3; clear hr3 hl3 hg3))
  all_goals go_wp2
  all_goals go_ret
  all_goals refine ⟨_, rfl, ⟨⟨es2, HS2.out.far HR2.out.obj.choose_spec HG3.out, HI2.out⟩, ⟨l3, HR3.out, HL3.out⟩, ?_⟩, ?_⟩
  all_goals first
    | exact ⟨HB.out.1, HB.out.2.1, HB.out.2.2.1, by have h1 := HBW.out.size; have h2 := HG2.out.size; have h3 := HG3.out.size; have h4 := HB.out.2.2.2; have h5 : V.drew.heap.size = V.heap.size := rfl; first | omega | (change V.heap.size ≤ _ at h2; omega)⟩
    | exact do_tail HBW.out HG2.out HG3.out HB.out
/-- An act. -/
theorem do.calls (B p mb g : Nat) (W H : Int) (n : Nat) (cl : Bool) (X Y Rw Rh ow : Int) (w : World) (h : Two B w p mb g W H n) (hn : n ≤ 60) (hW : 1 ≤ W ∧ W ≤ 16) (hH : 1 ≤ H ∧ H ≤ 16) (ho : ow ≠ 1048576) :
    Calls Try.prog 10 #[.agg #[.bool cl, .int .i64 X, .int .i64 Y, .int .i64 Rw, .int .i64 Rh, .int .i64 ow], .pointer (some ⟨p, 0, none⟩), .pointer (some ⟨g, 0, none⟩)] w fun e w' =>
      ∃ b : Bool, e = .returned (.bool b) ∧ Two B w' p mb g W H (n + 1) ∧ Below B w w' := by
  cases cl with
  | true => exact do_clear B p mb g W H n X Y Rw Rh ow w h hn
  | false => exact do_take B p mb g W H n X Y Rw Rh ow w h hn hW hH ho
end Go.Proofs.Ytpljnkfbcgdafaa.P
