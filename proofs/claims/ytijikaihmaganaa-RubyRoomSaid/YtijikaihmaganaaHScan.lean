/- utf.scan: scalars, or the place at which there is none: a panic that a deferred closure takes. -/
import Derived.Test.YtijikaihmaganaaHScan1
namespace Go.Proofs.Ytijikaihmaganaa.P
open Go.RowKit Go.Shelf Go.Proofs.YtijikaihmaganaaW.PrintWords Go.Proofs.YtijikaihmaganaaW.PrintLast Go.Proofs.YtijikaihmaganaaW.PrintMore
set_option linter.unusedVariables false
set_option linter.unusedSimpArgs false

/-- The scalars from a place on, or the place that is wrong. -/
def scanN (l : List Int) : Nat → Nat → List Int × Int × Bool
  | 0, _ => ([], 0, false)
  | d + 1, i =>
    if i < l.length then
      (if (nextL (l.drop i)).2.2 = 0 then
        (if (scanN l d (i + (nextL (l.drop i)).2.1.toNat)).2.2 = true then scanN l d (i + (nextL (l.drop i)).2.1.toNat) else ((nextL (l.drop i)).1 :: (scanN l d (i + (nextL (l.drop i)).2.1.toNat)).1, 0, false))
      else ([], (i : Int), true))
    else ([], 0, false)
def scanW (o : List Int) (r : List Int × Int × Bool) : List Int × Int × Bool := if r.2.2 = true then r else (o ++ r.1, 0, false)
def utf_scan.f (l : List Int) : Option (List Int × Int × Bool) := if l.all byteB = true ∧ l.length * 8 ≤ 140737488351232 then some (scanN l (l.length + 1) 0) else none
theorem lenF_le (c : Int) : lenF c ≤ 4 := by
  unfold lenF
  repeat' split
  all_goals omega
theorem next_ok {b : List Int} (h : (nextL b).2.2 = 0) : 1 ≤ (nextL b).2.1 ∧ (nextL b).2.1 ≤ (b.length : Int) := by
  unfold nextL at h ⊢
  by_cases c : lenF (rd b 0) = 0 ∨ b.length < lenF (rd b 0) ∨ b = []
  · rw [if_pos c] at h; exact absurd h (by decide)
  · rw [if_neg c] at h ⊢
    cases ht : tailsF ((b.take (lenF (rd b 0))).drop 1) (rd b 0 - headF (lenF (rd b 0))) with
    | none => rw [ht] at h; exact absurd h (by simp)
    | some x =>
      rw [ht] at h
      simp only [] at h ⊢
      by_cases g : scalB x = true ∧ limF (lenF (rd b 0)) ≤ x
      · rw [if_pos g] at h ⊢
        simp only []
        omega
      · rw [if_neg g] at h; exact absurd h (by decide)
theorem scanN_len (l : List Int) : ∀ d i, (scanN l d i).1.length ≤ d
  | 0, i => by simp [scanN]
  | d + 1, i => by
    rw [scanN]
    have ih := scanN_len l d (i + (nextL (l.drop i)).2.1.toNat)
    repeat' split
    · omega
    · simp only [List.length_cons]; omega
    · simp
    · simp
theorem scanW_nil (l : List Int) : ∀ d i, scanW [] (scanN l d i) = scanN l d i
  | 0, i => rfl
  | d + 1, i => by
    unfold scanW
    rw [scanN]
    repeat' split
    all_goals first | rfl | simp_all
/-- The state: the results' variables, and the row. -/
structure SS (w W : World) (v : Value) (o : List Int) : Prop where
  bel : Below w.heap.size w W
  b2 : Boxed W w.heap.size 22 v
  b3 : Boxed W (w.heap.size + 1) 3 (.int .i64 0)
  b4 : Boxed W (w.heap.size + 1 + 1) 4 (.bool false)
  row : Kd.R (Kd.int .i64) 3 W (w.heap.size + 3) (fun _ => True) v o
section
variable {w W W' w1 : World} {v v1 : Value} {o o' : List Int}
theorem SS.below (h : SS w W v o) (hb : Below W.heap.size W W') : SS w W' v o :=
  ⟨h.bel.trans (hb.mono h.bel.size), blk_below h.b2 hb, blk_below h.b3 hb, blk_below h.b4 hb, Kd.R_below h.row hb⟩
theorem SS.app (h : SS w W v o) (hg : W.grownBy w1 v.ownBlock) (hr : Kd.R (Kd.int .i64) 3 w1 (w.heap.size + 3) (fun _ => True) v1 o') (hb : Below (w.heap.size + 3) W w1) :
    Boxed w1 w.heap.size 22 v ∧ SS w (w1.setCell ⟨w.heap.size, 0, none⟩ v1) v1 o' := by
  have ne : ∀ k, v.ownBlock = some k → w.heap.size + 3 ≤ k := Kd.R_base h.row
  have ne1 : ∀ k, v1.ownBlock = some k → w.heap.size + 3 ≤ k := Kd.R_base hr
  have q : ∀ B, B < w.heap.size + 3 → some B ≠ v.ownBlock := fun B hB e => by have := ne B e.symm; omega
  have b1 := h.b2.kept hg (q _ (by omega))
  have b3 := h.b3.kept hg (q _ (by omega))
  have b4 := h.b4.kept hg (q _ (by omega))
  have hs : Below w.heap.size w w1 := h.bel.trans (hb.mono (by omega))
  refine ⟨b1, hs.setCell (Nat.le_refl _) _, b1.set v1, b3.other (by omega) v1, b4.other (by omega) v1, ?_⟩
  exact Kd.R_grown2 hr rfl (grownBy_setCell' w1 w.heap.size v1) (fun k hk => by cases hk; intro e; have := ne1 _ e.symm; omega)
theorem SS.start (w : World) : SS w (((w.alloc (.cells #[.slice none 0 0] 22)).alloc (.cells #[.int .i64 0] 3)).alloc (.cells #[.bool false] 4)) (.slice none 0 0) [] := by
  have e3 : Boxed ((w.alloc (.cells #[.slice none 0 0] 22)).alloc (.cells #[.int .i64 0] 3)) (w.heap.size + 1) 3 (.int .i64 0) := by
    have := Boxed.new (w.alloc (.cells #[.slice none 0 0] 22)) 3 (.int .i64 0)
    rwa [World.size_alloc] at this
  have e4 : Boxed (((w.alloc (.cells #[.slice none 0 0] 22)).alloc (.cells #[.int .i64 0] 3)).alloc (.cells #[.bool false] 4)) (w.heap.size + 1 + 1) 4 (.bool false) := by
    have := Boxed.new ((w.alloc (.cells #[.slice none 0 0] 22)).alloc (.cells #[.int .i64 0] 3)) 4 (.bool false)
    rwa [World.size_alloc, World.size_alloc] at this
  exact ⟨below_alloc (below_alloc (below_alloc (Below.refl _ _) _) _) _, ((Boxed.new w 22 _).alloc _).alloc _, e3.alloc _, e4, Kd.R_nil _ _ _ _ _⟩
end
set_option maxHeartbeats 8000000 in
set_option maxRecDepth 100000 in
theorem utf_scan.calls (A0 : Option Addr) (c0 : Nat) (l0 : List Int) (r1 : List Int) (r2 : Int) (r3 : Bool) (w : World) (hr0 : Kd.C (Kd.int .u8) w A0 l0.length l0) (hc0 : l0.length ≤ c0) (h : utf_scan.f l0 = some (r1, r2, r3)) :
    Calls Try.prog 33 #[.slice A0 l0.length c0] w fun e w' => ∃ v0_ : Value, e = .returned (.tuple #[v0_, .int .i64 r2, .bool r3]) ∧ Kd.R (Kd.int .i64) 3 w' w.heap.size (fun _ => True) v0_ r1 ∧ Below w.heap.size w w' := by
  unfold utf_scan.f at h
  by_cases hb : l0.all byteB = true ∧ l0.length * 8 ≤ 140737488351232
  case neg => rw [if_neg hb] at h; cases h
  rw [if_pos hb] at h
  obtain ⟨hb, hl⟩ := hb
  have h' := Option.some.inj h
  have HR0 := Aside0.mk hr0
  have HL := Aside0.mk hl
  have H := Aside0.mk h'
  have HBY := Aside0.mk hb
  clear hr0 hl h h' hb
  have hmf : ∀ (fn : Fn) (first cap : Array Value) (w : World), (Instr.makeFunc fn first cap).run Try.prog w = .ok (.func fn first cap) w := fun _ _ _ _ => rfl
  go_enter_defers Try.func33, Try.ntmps33
  go_wp2
  go_loopg [5] l0.length (fun kq v5 w' => ∃ (i d : Nat) (o : List Int) (A : Option Addr) (c : Nat), v5 = .int .i64 (i : Int) ∧ Aside0 (kq + i = l0.length) ∧ Aside0 (i ≤ l0.length ∧ l0.length + 1 ≤ d + i) ∧ Aside0 (scanW o (scanN l0 d i) = (r1, r2, r3)) ∧ Aside0 (o.length ≤ i) ∧ Aside0 (SS w w' (.slice A o.length c) o))
  case atStart => exact ⟨0, l0.length + 1, [], none, 0, rfl, ⟨by omega⟩, ⟨by omega⟩, ⟨by rw [scanW_nil]; exact H.out⟩, ⟨by simp⟩, ⟨SS.start w⟩⟩
  case round =>
    obtain ⟨i, d, o, A, c, rfl, HI, HD, HX, HO, HS⟩ := hrel
    have m2 := HS.out.b2.cell
    have m3 := HS.out.b3.cell
    have m4 := HS.out.b4.cell
    have f2 := HS.out.b2.frozen
    have f3 := HS.out.b3.frozen
    have f4 := HS.out.b4.frozen
    obtain ⟨d, rfl⟩ : ∃ q, d = q + 1 := ⟨d - 1, by have := HD.out; have := HI.out; omega⟩
    have hx := HX.out
    rw [scanN] at hx
    by_cases ci : (i : Int) < (l0.length : Int)
    · have cb : decide ((i : Int) < (l0.length : Int)) = true := decide_eq_true ci
      have cil : i < l0.length := by omega
      rw [if_pos cil] at hx
      by_cases he : (nextL (l0.drop i)).2.2 = 0
      · rw [if_pos he] at hx
        have HM := Aside0.mk (must_ok A0 c0 i l0 wr (Kd.C_below HR0.out HS.out.bel) hc0 HBY.out (by have := HL.out; omega) cil he)
        have hnx := next_ok he
        rw [List.length_drop] at hnx
        obtain ⟨n, hn⟩ : ∃ n : Nat, (nextL (l0.drop i)).2.1 = (n : Int) := ⟨(nextL (l0.drop i)).2.1.toNat, by omega⟩
        rw [hn, Int.toNat_natCast] at hx
        rw [hn] at HM hnx
        obtain ⟨x, hxx⟩ : ∃ x, (nextL (l0.drop i)).1 = x := ⟨_, rfl⟩
        rw [hxx] at HM hx
        have HN := Aside0.mk hnx
        have HWR : Aside0 (wrap64 ((i : Int) + (n : Int)) = ((i + n : Nat) : Int)) := ⟨by unfold wrap64; have := HL.out; omega⟩
        have HX2 : Aside0 (scanW (o ++ [x]) (scanN l0 d (i + n)) = (r1, r2, r3)) := ⟨by
          rw [← hx]
          unfold scanW
          by_cases g : (scanN l0 d (i + n)).2.2 = true
          · rw [if_pos g, if_pos g, if_pos g]
          · rw [if_neg g, if_neg g, if_neg (show ¬ (false = true) by decide)]; simp⟩
        clear hx he hnx hn hxx cil
        go_wp2_with (first | (go_at_call 40; refine HM.out.mono ?_; rintro e w1 ⟨rfl, hb1⟩; have HS1 := Aside0.mk (HS.out.below hb1); have n2 := HS1.out.b2.cell; have n2f := HS1.out.b2.frozen; clear hb1) | ((with_reducible refine gate_builtin (b := .append) (xs := #[.tmp 19, .tmp 21]) rfl ?_); at_builtin; refine Kd.R_append (Kd.int .i64) (w0 := w1) (w.heap.size + 3) rfl (.tmp 19) (.tmp 21) 22 3 (.int .i64 0) 8 rfl Try.underlying22 info3 rfl (by decide) (by omega) (.slice A o.length c) o x [.int .i64 x] (fun _ => True) (fun _ => False) rfl rfl ?aP (fun _ hk => hk.elim) ?aF ?aO ?aB ?aS ?aL ?_; (case aP => exact rfl); (case aB => exact Below.refl _ _); (case aF => exact (fun _ _ => trivial)); (case aO => exact HS1.out.row); (case aS => exact blk_lt HS1.out.b4); (case aL => have := HL.out; have := HO.out; have := HN.out; omega); intro v3 w7 ho hb hg hat; obtain ⟨A3, c3, e3⟩ := Kd.R_slice ho; have e4 : v3 = .slice A3 (o.length + 1) c3 := (by rw [e3]; simp); subst e4; clear e3; obtain ⟨b1, st2⟩ := HS1.out.app hg ho hb; have b1c := b1.cell; have b1f := b1.frozen; have HS2 := Aside0.mk st2; clear ho hb hg hat st2 b1))
        go_roundg (l0.length - (i + n))
        case measure => have := HI.out; have := HN.out; omega
        case rel => exact ⟨i + n, d, o ++ [x], A3, c3, by rw [HWR.out], ⟨by have := HN.out; omega⟩, ⟨by have := HN.out; have := HD.out; omega⟩, HX2, ⟨by have := HN.out; have := HO.out; simp only [List.length_append, List.length_cons, List.length_nil]; omega⟩, ⟨by have := HS2.out; simpa using this⟩⟩
      · rw [if_neg he] at hx
        have HM := Aside0.mk (must_no A0 c0 i l0 wr (Kd.C_below HR0.out HS.out.bel) hc0 HBY.out (by have := HL.out; omega) cil he)
        have hx2 : (([] : List Int), (i : Int), true) = (r1, r2, r3) := hx
        injection hx2 with e1 e2
        injection e2 with e2 e3
        subst e1 e2 e3
        clear hx he cil
        go_wp2_with (go_at_call 40; refine HM.out.mono ?_; rintro e w1 ⟨rfl, hb1⟩; have HS1 := Aside0.mk (HS.out.below hb1); clear hb1)
        refine leaves_cons (f := 39) (args := #[.pointer (some ⟨w.heap.size, 0, none⟩), .pointer (some ⟨w.heap.size + 1, 0, none⟩), .pointer (some ⟨w.heap.size + 1 + 1, 0, none⟩)]) (by simp) (by simp [go_sem]) ?_
        refine (catch_panic w.heap.size (w.heap.size + 1) (w.heap.size + 1 + 1) _ (i : Int) w1 HS1.out.b2 HS1.out.b3 HS1.out.b4 (by omega) (by omega) (by omega)).mono ?_
        rintro e u' w'' ⟨rfl, rfl, q2, q3, q4, q5⟩
        have y2 := q2.cell
        have y3 := q3.cell
        have y4 := q4.cell
        have HQ := Aside0.mk (HS1.out.bel.trans (q5 w.heap.size (by omega) (by omega) (by omega)))
        simp [Leaves, settle, results, Try.results33, go_sem, y2, y3, y4]
        exact ⟨Kd.R_nil _ _ _ _ _, HQ.out⟩
    · have cb : decide ((i : Int) < (l0.length : Int)) = false := decide_eq_false ci
      rw [if_neg (by omega)] at hx
      have hx2 : (o ++ [], (0 : Int), false) = (r1, r2, r3) := hx
      rw [List.append_nil] at hx2
      injection hx2 with e1 e2
      injection e2 with e2 e3
      subst e1 e2 e3
      clear hx
      go_wp2
      have q2 := ((HS.out.b2.set (.slice A o.length c)).other (B' := w.heap.size + 1) (by omega) (.int .i64 0)).other (B' := w.heap.size + 1 + 1) (by omega) (.bool false)
      have q3 := ((HS.out.b3.other (B' := w.heap.size) (by omega) (.slice A o.length c)).set (.int .i64 0)).other (B' := w.heap.size + 1 + 1) (by omega) (.bool false)
      have q4 := (((HS.out.b4.other (B' := w.heap.size) (by omega) (.slice A o.length c)).other (B' := w.heap.size + 1) (by omega) (.int .i64 0))).set (.bool false)
      have q5 : Below w.heap.size w (((wr.setCell ⟨w.heap.size, 0, none⟩ (.slice A o.length c)).setCell ⟨w.heap.size + 1, 0, none⟩ (.int .i64 0)).setCell ⟨w.heap.size + 1 + 1, 0, none⟩ (.bool false)) := ((HS.out.bel.setCell (Nat.le_refl _) _).setCell (show w.heap.size ≤ w.heap.size + 1 by omega) _).setCell (show w.heap.size ≤ w.heap.size + 1 + 1 by omega) _
      have q6 := HS.out.row
      have ne : ∀ k, (Value.slice A o.length c).ownBlock = some k → w.heap.size + 3 ≤ k := Kd.R_base q6
      have q7 := Kd.R_grown2 (Kd.R_grown2 (Kd.R_grown2 q6 rfl (grownBy_setCell' wr w.heap.size (.slice A o.length c)) (fun k hk => by cases hk; intro e; have := ne _ e.symm; omega)) rfl (grownBy_setCell' _ (w.heap.size + 1) (.int .i64 0)) (fun k hk => by cases hk; intro e; have := ne _ e.symm; omega)) rfl (grownBy_setCell' _ (w.heap.size + 1 + 1) (.bool false)) (fun k hk => by cases hk; intro e; have := ne _ e.symm; omega)
      have Q7 := Aside0.mk (Kd.R_lower q7 (by omega : w.heap.size ≤ w.heap.size + 3))
      have Q5 := Aside0.mk q5
      clear q5 q6 q7 ne
      generalize (((wr.setCell ⟨w.heap.size, 0, none⟩ (.slice A o.length c)).setCell ⟨w.heap.size + 1, 0, none⟩ (.int .i64 0)).setCell ⟨w.heap.size + 1 + 1, 0, none⟩ (.bool false)) = w9 at q2 q3 q4 Q5 Q7 ⊢
      refine leaves_cons (f := 39) (args := #[.pointer (some ⟨w.heap.size, 0, none⟩), .pointer (some ⟨w.heap.size + 1, 0, none⟩), .pointer (some ⟨w.heap.size + 1 + 1, 0, none⟩)]) (by simp) (by simp [go_sem]) ?_
      refine (catch_idle ⟨w.heap.size, 0, none⟩ ⟨w.heap.size + 1, 0, none⟩ ⟨w.heap.size + 1 + 1, 0, none⟩ w9).mono ?_
      rintro e u' w'' ⟨rfl, rfl, rfl⟩
      have y2 := q2.cell
      have y3 := q3.cell
      have y4 := q4.cell
      simp [Leaves, settle, results, Try.results33, go_sem, y2, y3, y4]
      exact ⟨Q7.out, Q5.out⟩
end Go.Proofs.Ytijikaihmaganaa.P
