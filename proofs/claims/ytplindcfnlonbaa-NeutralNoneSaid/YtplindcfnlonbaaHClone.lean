/- slices.Clone over whole numbers; no condition but the length. -/
import Derived.Test.YtplindcfnlonbaaP0
import Derived.Shelf.Abstract
import Derived.WalkSpells
namespace Go.Proofs.Ytplindcfnlonbaa.P
open Go.RowKit Go.Shelf Go.Proofs.YtplindcfnlonbaaW.PrintWords Go.Proofs.YtplindcfnlonbaaW.PrintLast Go.Proofs.YtplindcfnlonbaaW.PrintMore
set_option linter.unusedVariables false
set_option linter.unusedSimpArgs false

/-- slices.Clone. -/
theorem clone_calls (A0 : Option Addr) (c0 : Nat) (l0 : List Int) (w : World) (hr0 : Kd.C (Kd.int .i64) w A0 l0.length l0) (hc0 : l0.length ≤ c0) (hl : l0.length < 17592186044416) :
    Calls Try.prog 17 #[.slice A0 l0.length c0] w fun e w' => ∃ v0_ : Value, e = .returned (v0_) ∧ Kd.R (Kd.int .i64) 23 w' w.heap.size (fun _ => True) v0_ l0 ∧ Below w.heap.size w w' := by
  cases A0 with
  | none =>
    have h0 : l0.length = 0 := by
      by_cases h : 0 < l0.length
      · obtain ⟨ad, e, _⟩ := Kd.at_int hr0 0 (by omega) (by omega)
        cases e
      · omega
    obtain rfl : l0 = [] := List.length_eq_zero_iff.1 h0
    clear h0 hl hr0
    have hn := @Lib.run_eql_slice_nil Try.prog
    go_enter Try.func17, Try.ntmps17
    go_wp2
    go_ret
    exact ⟨_, rfl, Kd.R_nil _ _ _ _ _, Below.refl _ _⟩
  | some ad =>
    have HR0 := Aside0.mk hr0
    have HC0 := Aside0.mk hc0
    have LM := Aside0.mk hl
    have HB := Aside0.mk (Below.refl w.heap.size w)
    clear hr0 hc0 hl
    have hn := @Lib.run_eql_slice_nil Try.prog
    go_enter Try.func17, Try.ntmps17
    go_wp2_with (first | ((with_reducible refine gate_dst (N := 5) rfl ?_); refine Kd.R_lit (Kd.int .i64) _ 23 ?hg (N := 5) ?hd (xs := ([] : List Int)) (inner := []) (ok := fun _ => True) (okp := fun _ => True) ?hr ?hp (fun _ hk => hk) trivial (Below.refl _ _) (Nat.le_refl _) (by simp) ?_; (case hd => rfl); (case hg => rfl); (case hr => first | (go_simp; done) | (go_simp; rfl)); (case hp => exact (Reps.none _ _)); intro v243 w21 ho22 hb hg_ hnew_; clear hg_ hnew_; have n1_ := Aside0.mk (below_step HB.out hb); have HO := Aside0.mk ho22; clear HB; have HB := n1_; clear n1_ hb ho22) | ((with_reducible refine gate_builtin (b := .append) (xs := #[.tmp 5, .tmp 6]) rfl ?_); at_builtin; refine Kd.R_append_rows (Kd.int .i64) (w0 := w) w.heap.size rfl (.tmp 5) (.tmp 6) 22 23 (.int .i64 0) 8 rfl Try.underlying22 info23 rfl (by decide) (by omega) v243 [] l0 _ _ _ (fun _ => True) (fun _ => False) rfl rfl ?aO ?aR (fun _ _ h => h) (fun _ h => h.elim) ?aF ?aB ?aS ?aL ?_; (case aR => exact (Kd.C_below HR0.out HB.out)); (case aB => exact HB.out); (case aF => exact (fun _ _ => trivial)); (case aO => exact HO.out); (case aS => exact (below_size HB.out)); (case aL => have := LM.out; simp only [List.length_nil]; omega); intro v246 w23 ho hb hg hat; have HB9 := Aside0.mk hb; have HO9 := Aside0.mk ho; clear ho hb hg hat))
    go_ret
    exact ⟨_, rfl, by have := HO9.out; simpa using this, HB9.out⟩
end Go.Proofs.Ytplindcfnlonbaa.P
