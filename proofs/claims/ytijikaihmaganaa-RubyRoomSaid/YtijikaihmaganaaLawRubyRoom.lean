/- The law frisket/frisketlaw18.RubyRoom answers true at every input that its statement speaks of, and leaves its arguments as they were; no condition. Written by wip/tools/gprint.py. -/
import Derived.Test.YtijikaihmaganaaRows
import Derived.Test.YtijikaihmaganaaHRoom
import Derived.Test.YtijikaihmaganaaOp
import Derived.Test.YtijikaihmaganaaPureRubyRoom
namespace Go.Proofs.Ytijikaihmaganaa.rubyRoom
open Go.ChangeShapes Go.WideShapes Go.ChangeAt Go.RowKit
open Go.ChangeMaps (open_string shut_string)
set_option linter.unusedVariables false
theorem own : ownKnob Try.prog.godebug = none := by kernel_rfl
theorem laidOut : laidOutB Try.prog = true := by kernel_rfl
set_option maxRecDepth 100000 in
theorem lifted (os : Os) (started : os.Started) (H : Type) (enc : TypeId × Value → H) :
    ReturnsInHanded {} Try.checked os 9 .any (Rows.rubyRoomSpec.pre6 enc Try.prog Try.f9 Rows.rubyRoomRow.domain false) (Rows.rubyRoomSpec.post enc Try.prog Try.f9 false true false false) := by
  refine returnsInHanded_of_change_sized (C := Try.checked) own started (by kernel_rfl) Try.func9
    (ChangeSpec.witness6 (enc := enc) (C := Try.checked) false ⟨#[], #[.slice none 0 0, .slice none 0 0], []⟩ 8 (by kernel_rfl) (by kernel_rfl) (by kernel_rfl) (by kernel_rfl)) ?_
  intro W base args ds gs before hval0 hW hcnd hsz0 _
  have hsz : (DataW.weightsEach Try.prog (Try.f9.params.toList ++ Rows.rubyRoomSpec.plain.varTypes Try.prog) (ds ++ gs)).all (· ≤ reachBytes) = true := hsz0
  have hval : ∀ (j : Nat) t v, Try.f9.params[j]? = some t → args[j]? = some v → Value.okWide Try.prog W .any base t v := hval0
  have hW' := hW
  obtain ⟨p, q, hA0, hV, rfl, hfz, hnd⟩ := hW
  have hA : DataW.TrodAll enc Try.prog W 0 (fun _ => true) true Try.f9.params.toList args.toList ds p := hA0
  rw [Try.params9] at hA hval hsz
  obtain ⟨v0, vs0, d0, ds0, p0, q0, hargs, rfl, rfl, h0, r0⟩ := trodAll_cons hA
  obtain ⟨v1, vs1, d1, ds1, p1, q1, rfl, rfl, rfl, h1, r1⟩ := trodAll_cons r0
  obtain ⟨rfl, rfl, rfl⟩ := trodAll_nil r1
  obtain rfl : args = #[v0, v1] := by cases args; simp_all
  obtain ⟨rfl, rfl⟩ := trodVars_none hV
  have k0 := h0
  have lt0 : ∀ x ∈ p0, x.block < W.heap.size := by obtain ⟨m, hm⟩ := k0; exact DataW.trod_lt m _ _ _ hm
  obtain ⟨A0, n0, c0, rfl⟩ := okWide_slice Try.underlying41 (hval 0 41 v0 rfl rfl)
  obtain ⟨fuel0, hf0⟩ := h0
  obtain ⟨l0, ⟨A0_, c0_, hq0, hc0, hr0⟩, hw0⟩ := Op.opens_slice Try.underlying41 (Op.opens_T51) (by kernel_rfl) (by intro b b' x hb hx; exact Op.WT51_mono hb hx) _ enc _ _ _ _ _ _ _ hf0
  simp only [Value.cells, List.cons.injEq, Value.slice.injEq, and_true] at hq0
  obtain ⟨rfl, rfl, rfl⟩ := hq0
  have y0 := Op.sized_len hsz (j := 0) (t := 41) rfl rfl Try.underlying41 (B := 56) (by kernel_rfl) k0
  have k1 := h1
  have lt1 : ∀ x ∈ p1, x.block < W.heap.size := by obtain ⟨m, hm⟩ := k1; exact DataW.trod_lt m _ _ _ hm
  obtain ⟨A1, n1, c1, rfl⟩ := okWide_slice Try.underlying42 (hval 1 42 v1 rfl rfl)
  obtain ⟨fuel1, hf1⟩ := h1
  obtain ⟨l1, ⟨A1_, c1_, hq1, hc1, hr1⟩, hw1⟩ := Op.opens_slice Try.underlying42 (Op.opens_T68) (by kernel_rfl) (by intro b b' x hb hx; exact Op.WT68_mono hb hx) _ enc _ _ _ _ _ _ _ hf1
  simp only [Value.cells, List.cons.injEq, Value.slice.injEq, and_true] at hq1
  obtain ⟨rfl, rfl, rfl⟩ := hq1
  have y1 := Op.sized_len hsz (j := 1) (t := 42) rfl rfl Try.underlying42 (B := 56) (by kernel_rfl) k1
  clear hA0 hval0 hsz0 hsz
  obtain ⟨k, hp⟩ := Pure.RubyRoom l0 l1
  refine (P.frisketlaw18_RubyRoom.calls (k := k) (r := true) (w := W) (hr0 := hr0) (hc0 := hc0) (hr1 := hr1) (hc1 := hc1) (hrt := rfl) (h := hp)).mono ?_
  rintro e W' ⟨rfl, hd⟩
  have bel : Below W.heap.size W W' := hd
  exact ⟨_, rfl, _, _, _, [], _, [], hW', trodAll_mk1 (shut_bool Try.underlying4 _), (trodAll_cons_mk (Below.trod laidOut (by kernel_rfl) (of_decide_eq_true (by kernel_rfl)) k0 bel lt0) (trodAll_cons_mk (Below.trod laidOut (by kernel_rfl) (of_decide_eq_true (by kernel_rfl)) k1 bel lt1) trodAll_mk0)), rfl, bel.frame _, fun h => by cases h⟩
theorem over : Rows.rubyRoomRow.holds Try.pinned (OpenSpec.ofChange Rows.rubyRoomSpec) :=
  OpenClaim.holds_of_wide 9 Try.f9 rfl rfl rfl rfl rfl rfl rfl ⟨rfl, rfl, rfl, rfl, rfl⟩ rfl rfl rfl rfl rfl (by kernel_rfl) Try.func9 (by kernel_rfl)
    (of_decide_eq_true (by kernel_rfl)) (by unfold Func.isWrapper; first | (rw [if_pos (by decide +kernel)]; kernel_rfl) | (rw [if_neg (by decide +kernel)]; exact ⟨rfl, rfl⟩))
    (fun os started H enc _ => lifted os started H enc)
theorem proved : Rows.RubyRoomSaid := over
#print axioms proved
end Go.Proofs.Ytijikaihmaganaa.rubyRoom
namespace Go.Proofs.Ytijikaihmaganaa
/-- The law's statement. -/
theorem rubyRoom_holds : Rows.RubyRoomSaid := rubyRoom.proved
end Go.Proofs.Ytijikaihmaganaa
