/- neutral.stretches: what the iterator yields. -/
import Derived.Test.YtplindcfnlonbaaP5
import Derived.Test.YtplindcfnlonbaaP4
import Derived.Test.YtplindcfnlonbaaP1
import Derived.Test.YtplindcfnlonbaaHSeq
import Derived.Test.YtplindcfnlonbaaHClone
import Derived.RegionIn
namespace Go.Proofs.Ytplindcfnlonbaa.P
open Go.RowKit Go.Shelf Go.Proofs.YtplindcfnlonbaaW.PrintWords Go.Proofs.YtplindcfnlonbaaW.PrintLast Go.Proofs.YtplindcfnlonbaaW.PrintMore
set_option linter.unusedVariables false
set_option linter.unusedSimpArgs false
attribute [local go_sem] Oper.semAt_some

/-- What a round of the body keeps: all but the row. -/
structure KG (n₀ g : Nat) (A B : World) : Prop where
  bel : Below n₀ A B
  keep : ∀ k o, A.heap[k]? = some o → o.isCells = true → k ≠ g → B.heap[k]? = some o
theorem KG.refl (n₀ g : Nat) (W : World) : KG n₀ g W W := ⟨Below.refl _ _, fun _ _ h _ _ => h⟩
theorem KG.t {n₀ g : Nat} {A B C : World} (h : KG n₀ g A B) (k : KG n₀ g B C) : KG n₀ g A C :=
  ⟨h.bel.trans k.bel, fun i o hi hc hg => k.keep i o (h.keep i o hi hc hg) hc hg⟩
theorem KG.b {n₀ g : Nat} {w : World} (hn : n₀ ≤ w.heap.size) (W : World) (l : Nat) (o o' : Obj) (hl : w.heap.size ≤ l) (h : W.heap[l]? = some o) (hc : o.isCells = false) (hw : o.isWalk = false) : KG n₀ g W (W.putObj l o') := by
  refine ⟨belowK_b hn W l o o' hl h hc hw, fun k o1 hk hc1 _ => ?_⟩
  rw [World.putObj_heap_other (fun e => by subst e; rw [h] at hk; cases hk; rw [hc] at hc1; cases hc1)]
  exact hk
/-- Where neutral places beside one another begin, and end, i being behind. -/
def stN (l : List Int) : Nat → Nat → Nat → List (Int × Int)
  | 0, _, fr => if fr < l.length then [((fr : Int), (l.length : Int))] else []
  | d + 1, i, fr => if neutral_neutral.f (rd l (i : Int)) = some true then stN l d (i + 1) fr else if fr < i then ((fr : Int), (i : Int)) :: stN l d (i + 1) (i + 1) else stN l d (i + 1) (i + 1)
theorem neu_ok (c : Int) : ∃ b, neutral_neutral.f c = some b := by
  unfold neutral_neutral.f
  repeat' split
  all_goals exact ⟨_, rfl⟩
abbrev encP (x : Int × Int) : Array Value := #[.int .i64 x.1, .int .i64 x.2]
theorem st_in (n : Nat) (v0 : Value) (w : World) (h0 : v0.oneCell' = true) :
    CallsIn Fence.wide n Try.prog 18 #[v0] w fun e w' => e = .returned (.func (.func 21) #[] #[.pointer (some ⟨w.heap.size, 0, none⟩)]) ∧ w' = w.alloc (.cells #[v0] 22) := by
  refine callsIn_of_wp Try.func18 rfl trivial ?_ rfl
  simp only [Try.ntmps18, List.size_toArray, List.length_cons, List.length_nil, Nat.reduceAdd, Nat.reduceSub, Array.replicate_succ, Array.replicate_zero, List.push_toArray, List.append_toArray, List.nil_append, List.cons_append]
  gi_wp2
  go_ret
  exact ⟨rfl, rfl⟩
set_option maxRecDepth 100000 in
set_option maxHeartbeats 4000000 in
theorem st_stops (n : Nat) (hn : 1 ≤ n) (wc : World) (g Bl : Nat) (A0 : Option Addr) (c0 : Nat) (l0 : List Int) (hlen : l0.length < 17592186044416) (w : World) (hwc : Below wc.heap.size wc w) (hr0 : Kd.C (Kd.int .i64) wc A0 l0.length l0) (hc0 : l0.length ≤ c0) (h1 : Boxed w Bl 22 (.slice A0 l0.length c0)) (n1 : Bl ≠ g) :
    SeqW Fence.wide n Try.prog 21 #[.pointer (some ⟨Bl, 0, none⟩)] encP (KG wc.heap.size g) (fun _ A B => Below A.heap.size A B) (fun ys => ys = stN l0 l0.length 0 0) (fun pre x => ∃ rest, stN l0 l0.length 0 0 = pre ++ x :: rest) w := fun l J W hW hJ hY h0 => by
  obtain ⟨L, hL⟩ : ∃ L, stN l0 l0.length 0 0 = L := ⟨_, rfl⟩
  rw [hL] at hY ⊢
  refine callsIn_of_wp Try.func21 rfl trivial ?_ rfl
  simp only [Try.ntmps21, List.size_toArray, List.length_cons, List.length_nil, Nat.reduceAdd, Nat.reduceSub, Array.replicate_succ, Array.replicate_zero, List.push_toArray, List.append_toArray, List.nil_append, List.cons_append]
  have hbx : Boxed W Bl 22 (.slice A0 l0.length c0) := (hW.block Bl h1.lt).trans h1
  have v1 := cI hbx 0 rfl
  have HBX := Aside0.mk hbx
  have HBC := Aside0.mk (hwc.trans (hW.mono hwc.size))
  have HLEN := Aside0.mk hlen
  have HL := Aside0.mk hL
  clear hbx hlen hL
  gi_wp2
  gi_loopw [3, 8] (fun p q wr => ∃ (pre : List (Int × Int)) (i d fr : Nat), p = .int .i64 (fr : Int) ∧ q = .int .i64 (i : Int) ∧ Aside0 (i + d = l0.length) ∧ Aside0 (fr ≤ i) ∧ Aside0 (L = pre ++ stN l0 d i fr) ∧ J pre wr ∧ Aside0 (Boxed wr Bl 22 (.slice A0 l0.length c0)) ∧ Aside0 (Below wc.heap.size wc wr))
    (fun _ q _ => l0.length - (intOf q).toNat)
  case atStart => exact ⟨[], 0, l0.length, 0, rfl, rfl, ⟨by omega⟩, ⟨Nat.le_refl _⟩, ⟨HL.out.symm⟩, h0, HBX, HBC⟩
  case round =>
    clear HL HBX HBC v1 h0
    obtain ⟨pre, i, d, fr, rfl, rfl, HI, HF, HX, hJs, HBX, HB⟩ := hrel
    by_cases cl : i < l0.length
    · obtain ⟨d, rfl⟩ : ∃ q, d = q + 1 := ⟨d - 1, by have := HI.out; omega⟩
      have cb : decide (i < l0.length) = true := decide_eq_true cl
      have hi0 : (0 : Int) ≤ (i : Int) := by omega
      obtain ⟨ad, e, hx0⟩ := Kd.at_int (Kd.C_below hr0 HB.out) (i : Int) (by omega) (by omega)
      cases e
      simp only [Int.toNat_natCast] at hx0
      obtain ⟨b, hb⟩ := neu_ok (rd l0 (i : Int))
      have HN := Aside0.mk hb
      have HWR : Aside0 (wrap64 ((i : Int) + 1) = ((i + 1 : Nat) : Int)) := ⟨by unfold wrap64; have := HLEN.out; have := HI.out; omega⟩
      replace cl := eq_true cl
      have hj1 : ∀ m, J pre (wr.drewN m) := fun m => hJ _ _ _ hJs (pw_below_drewN (Below.refl _ _) m)
      cases b with
      | true =>
        have HX2 : Aside0 (L = pre ++ stN l0 d (i + 1) fr) := ⟨by rw [HX.out, stN, if_pos hb]⟩
        clear hb HX
        gi_wp2_with (refine ⟨trivial, ?_⟩; gi_at_call 22; refine (callsIn_wide.2 (neutral_neutral.calls (rd l0 i) true wr HN.out)).mono ?_; rintro e w1 ⟨rfl, ⟨⟨m, rfl⟩⟩⟩)
        go_roundw
        case rel => exact ⟨pre, i + 1, d, fr, rfl, by rw [HWR.out], ⟨by have := HI.out; omega⟩, ⟨by have := HF.out; omega⟩, HX2, hj1 m, ⟨blk_drewN HBX.out m⟩, ⟨pw_below_drewN HB.out m⟩⟩
        case measure =>
          rw [HWR.out]
          have := HI.out
          simp [intOf]
          omega
      | false =>
        by_cases cg : fr < i
        · have HX2 : Aside0 (L = pre ++ ((fr : Int), (i : Int)) :: stN l0 d (i + 1) (i + 1)) := ⟨by rw [HX.out, stN, if_neg (by rw [hb]; decide), if_pos cg]⟩
          have cgb : decide (fr < i) = true := decide_eq_true cg
          replace cg := eq_true cg
          clear hb HX
          gi_wp2_with (refine ⟨trivial, ?_⟩; gi_at_call 22; refine (callsIn_wide.2 (neutral_neutral.calls (rd l0 i) false wr HN.out)).mono ?_; rintro e w1 ⟨rfl, ⟨⟨m, rfl⟩⟩⟩; obtain ⟨fn, tmps, assign, body, hy, hR⟩ := hY pre ((fr : Int), (i : Int)) (wr.drewN m) (hj1 m) ⟨_, HX2.out⟩; dsimp only [encP] at hy)
          refine hR.mono ?_
          rintro e W3 ⟨rfl, hJ3, hk3⟩
          have HBX2 := Aside0.mk (hk3.keep Bl _ (blk_drewN HBX.out m) rfl n1)
          have HB2 := Aside0.mk ((pw_below_drewN HB.out m).trans hk3.bel)
          clear hk3 hR hy HBX HB hj1 hJs
          gi_wp2
          go_roundw
          case rel => exact ⟨pre ++ [((fr : Int), (i : Int))], i + 1, d, i + 1, by rw [HWR.out], by rw [HWR.out], ⟨by have := HI.out; omega⟩, ⟨Nat.le_refl _⟩, ⟨by rw [HX2.out]; simp⟩, hJ3, HBX2, HB2⟩
          case measure =>
            rw [HWR.out]
            have := HI.out
            simp [intOf]
            omega
        · have HX2 : Aside0 (L = pre ++ stN l0 d (i + 1) (i + 1)) := ⟨by rw [HX.out, stN, if_neg (by rw [hb]; decide), if_neg cg]⟩
          have cgb : decide (fr < i) = false := decide_eq_false cg
          replace cg := eq_false cg
          clear hb HX
          gi_wp2_with (refine ⟨trivial, ?_⟩; gi_at_call 22; refine (callsIn_wide.2 (neutral_neutral.calls (rd l0 i) false wr HN.out)).mono ?_; rintro e w1 ⟨rfl, ⟨⟨m, rfl⟩⟩⟩)
          refine ⟨fun _ h => (by cases h), ?_⟩
          gi_wp2
          go_roundw
          case rel => exact ⟨pre, i + 1, d, i + 1, by rw [HWR.out], by rw [HWR.out], ⟨by have := HI.out; omega⟩, ⟨Nat.le_refl _⟩, HX2, hj1 m, ⟨blk_drewN HBX.out m⟩, ⟨pw_below_drewN HB.out m⟩⟩
          case measure =>
            rw [HWR.out]
            have := HI.out
            simp [intOf]
            omega
    · have cb : decide (i < l0.length) = false := decide_eq_false cl
      obtain rfl : d = 0 := by have := HI.out; omega
      replace cl := eq_false cl
      have v1 := cI HBX.out 0 rfl
      by_cases cg : fr < l0.length
      · have HX2 : Aside0 (L = pre ++ [((fr : Int), (l0.length : Int))]) := ⟨by rw [HX.out, stN, if_pos cg]⟩
        have cgb : decide (fr < l0.length) = true := decide_eq_true cg
        replace cg := eq_true cg
        obtain ⟨fn, tmps, assign, body, hy, hR⟩ := hY pre ((fr : Int), (l0.length : Int)) wr hJs ⟨[], HX2.out⟩
        dsimp only [encP] at hy
        gi_wp2
        refine hR.mono ?_
        rintro e W3 ⟨rfl, hJ3, hk3⟩
        gi_wp2
        go_end0
        exact ⟨⟨_, rfl⟩, _, HX2.out.symm, hJ3⟩
      · have HX2 : Aside0 (L = pre) := ⟨by rw [HX.out, stN, if_neg cg, List.append_nil]⟩
        have cgb : decide (fr < l0.length) = false := decide_eq_false cg
        replace cg := eq_false cg
        gi_wp2
        go_end0
        exact ⟨⟨_, rfl⟩, _, HX2.out.symm, hJs⟩
end Go.Proofs.Ytplindcfnlonbaa.P
