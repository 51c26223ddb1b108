/- The law SheetNil: no sheet; at every rect and every owner it answers true. -/
import Derived.Test.YtpljnkfbcgdafaaHAlive
import Derived.Test.YtpljnkfbcgdafaaWEqStruct
namespace Go.Proofs.Ytpljnkfbcgdafaa.P
open Go.RowKit Go.Shelf Go.Proofs.YtpljnkfbcgdafaaW.PrintWords Go.Proofs.YtpljnkfbcgdafaaW.PrintLast Go.Proofs.YtpljnkfbcgdafaaW.PrintMore
set_option linter.unusedVariables false
set_option linter.unusedSimpArgs false

set_option maxHeartbeats 2000000 in
set_option maxRecDepth 100000 in
theorem Clear_nil.calls (ow : Int) (w : World) : Calls Try.prog 21 #[.pointer none, .int .i64 ow] w fun e w' => e = .returned (.int .i64 0) ∧ Below w.heap.size w w' := by
  go_enter Try.func21, Try.ntmps21
  go_wp2
  go_ret
  exact ⟨rfl, below_alloc (Below.refl _ _) _⟩
theorem Area_nil2.calls (ow : Int) (w : World) :
    Calls Try.prog 11 #[.pointer none, .int .i64 ow] w fun e w' => e = .returned (.tuple #[.int .i64 0, .agg #[.int .i64 0, .int .i64 0, .int .i64 0, .int .i64 0]]) ∧ Below w.heap.size w w' := Area_nil.calls ow w
theorem eq32 (w : World) : (binOp .eql 32 (.agg #[.int .i64 0, .int .i64 0, .int .i64 0, .int .i64 0]) (.agg #[.int .i64 0, .int .i64 0, .int .i64 0, .int .i64 0])).run Try.prog w = .ok (.bool true) w := by
  have hu32 := Try.underlying32
  have hu3 := Try.underlying3
  simp only [binOp]
  simp only [Op.equal, Op.maxDepth, Sem.run_bind]
  rw [eqA_of (r := true) Try.underlying32 (by kernel_rfl) ?_]
  · rfl
  · have p0 : ∀ i : Nat, i < 4 → (part 3 #[.int .i64 0, .int .i64 0, .int .i64 0, .int .i64 0] i).run Try.prog w = .ok (.int .i64 0) w := by
      intro i hi
      rcases (show i = 0 ∨ i = 1 ∨ i = 2 ∨ i = 3 by omega) with rfl | rfl | rfl | rfl <;> go_simp
    have e0 : (Op.equalIn 9999 3 (.int .i64 0) (.int .i64 0)).run Try.prog w = .ok true w := by go_simp
    have h3 := eqf_last (f := { name := "H", type := 3, offset := 3, embedded := false, tag := "", pkgPath := "", byteOffset := 24 }) rfl (p0 3 (by omega)) (p0 3 (by omega)) e0
    have h2 := eqf_cons (f := { name := "W", type := 3, offset := 2, embedded := false, tag := "", pkgPath := "", byteOffset := 16 }) rfl (p0 2 (by omega)) (p0 2 (by omega)) e0 h3
    have h1 := eqf_cons (f := { name := "Y", type := 3, offset := 1, embedded := false, tag := "", pkgPath := "", byteOffset := 8 }) rfl (p0 1 (by omega)) (p0 1 (by omega)) e0 h2
    exact eqf_cons (f := { name := "X", type := 3, offset := 0, embedded := false, tag := "", pkgPath := "", byteOffset := 0 }) rfl (p0 0 (by omega)) (p0 0 (by omega)) e0 h1
set_option maxHeartbeats 4000000 in
set_option maxRecDepth 100000 in
theorem frisketlaw20_SheetNil.calls (X Y Rw Rh ow : Int) (w : World) :
    Calls Try.prog 6 #[.agg #[.int .i64 X, .int .i64 Y, .int .i64 Rw, .int .i64 Rh], .int .i64 ow] w fun e w' => e = .returned (.bool true) ∧ Below w.heap.size w w' := by
  have hu32 := Try.underlying32
  have heq := eq32
  have HB0 := Aside0.mk (below_alloc (Below.refl w.heap.size w) (.cells #[.int .i64 X, .int .i64 Y, .int .i64 Rw, .int .i64 Rh] 32))
  have HR := Aside0.mk (blk_new w (.cells #[.int .i64 X, .int .i64 Y, .int .i64 Rw, .int .i64 Rh] 32))
  go_enter Try.func6, Try.ntmps6
  go_wp2_with (first
    | (go_at_call 11; refine (Area_nil2.calls ow _).mono ?_; rintro e w1 ⟨rfl, hb⟩; have HB1 := Aside0.mk (below_step HB0.out hb); have HR1 := Aside0.mk (blk_below HR.out hb); have HZ1 := Aside0.mk (blk_new w1 (.cells #[.int .i64 0, .int .i64 0, .int .i64 0, .int .i64 0] 32)); have HA1 := Aside0.mk (HB1.out.alloc HB1.out.size (.cells #[.int .i64 0, .int .i64 0, .int .i64 0, .int .i64 0] 32)); have HRA := Aside0.mk (blk_alloc HR1.out (.cells #[.int .i64 0, .int .i64 0, .int .i64 0, .int .i64 0] 32)); clear hb)
    | (go_at_call 9; refine (frisketlaw20_alive.calls true _ rfl).mono ?_; rintro e w2 ⟨rfl, hb⟩; have HB2 := Aside0.mk (below_step HA1.out hb); have HR2 := Aside0.mk (blk_below HRA.out hb); have HZ2 := Aside0.mk (blk_below HZ1.out hb); clear hb; have z0 := cI HR2.out 0 (v := .int .i64 X) rfl; have z1 := cI HR2.out 1 (v := .int .i64 Y) rfl; have z2 := cI HR2.out 2 (v := .int .i64 Rw) rfl; have z3 := cI HR2.out 3 (v := .int .i64 Rh) rfl)
    | (go_at_call 20; refine (Take_nil.calls X Y Rw Rh ow _).mono ?_; rintro e w3 ⟨rfl, hb⟩; have HB3 := Aside0.mk (below_step HB2.out hb); have HR3 := Aside0.mk (blk_below HR2.out hb); have HZ3 := Aside0.mk (blk_below HZ2.out hb); clear hb; have z0 := cI HR3.out 0 (v := .int .i64 X) rfl; have z1 := cI HR3.out 1 (v := .int .i64 Y) rfl; have y0 := cI HZ3.out 0 (v := .int .i64 0) rfl; have y1 := cI HZ3.out 1 (v := .int .i64 0) rfl; have y2 := cI HZ3.out 2 (v := .int .i64 0) rfl; have y3 := cI HZ3.out 3 (v := .int .i64 0) rfl)
    | (go_at_call 18; refine (At_nil.calls X Y _).mono ?_; rintro e w4 ⟨rfl, rfl⟩)
    | (go_at_call 13; refine (Free_nil.calls _).mono ?_; rintro e w4 ⟨rfl, rfl⟩)
    | (go_at_call 16; refine (Owners_nil.calls _).mono ?_; rintro e w4 ⟨rfl, rfl⟩)
    | (go_at_call 21; refine (Clear_nil.calls ow _).mono ?_; rintro e w5 ⟨rfl, hb⟩; have HB5 := Aside0.mk (below_step HB3.out hb); clear hb))
  go_ret
  exact ⟨rfl, HB5.out⟩
end Go.Proofs.Ytpljnkfbcgdafaa.P
