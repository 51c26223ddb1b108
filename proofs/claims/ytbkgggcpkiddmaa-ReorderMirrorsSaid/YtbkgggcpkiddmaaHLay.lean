/- reorder.Order's inner function, which calls itself. -/
import Derived.Test.YtbkgggcpkiddmaaHReverse
import Derived.RangeFuncBox
import Derived.RangeFuncNested
import Derived.RangeFuncCalls
namespace Go.Proofs.Ytbkgggcpkiddmaa.P
open Go.RowKit Go.Shelf Go.Proofs.YtbkgggcpkiddmaaW.PrintWords Go.Proofs.YtbkgggcpkiddmaaW.PrintLast Go.Proofs.YtbkgggcpkiddmaaW.PrintMore
set_option linter.unusedVariables false
set_option linter.unusedSimpArgs false
attribute [local go_sem] Oper.semAt_some

/-- Where what is above a level ends, from i on. -/
def runE (l : List Int) (lv : Nat) : Nat → Nat → Nat
  | 0, i => i
  | d + 1, i => if (lv : Int) < rd l (i : Int) then runE l lv d (i + 1) else i
def turn (lv : Nat) (s : List Int) : List Int := if 0 < lv then s.reverse else s
/-- What is laid, before it is turned. -/
def layL (l : List Int) : Nat → Nat → Nat → Nat → List Int
  | 0, _, _, _ => []
  | k + 1, i, te, lv => if i < te then (if rd l (i : Int) = (lv : Int) then (i : Int) :: layL l k (i + 1) te lv else (layL l k i (runE l lv (te - i) i) (lv + 1)).reverse ++ layL l k (runE l lv (te - i) i) te lv) else []
theorem runE_le (l : List Int) (lv : Nat) : ∀ d i, i ≤ runE l lv d i ∧ runE l lv d i ≤ i + d
  | 0, i => by simp [runE]
  | d + 1, i => by
    unfold runE
    have := runE_le l lv d (i + 1)
    split <;> omega
theorem runE_in (l : List Int) (lv : Nat) : ∀ d i j, i ≤ j → j < runE l lv d i → (lv : Int) < rd l (j : Int)
  | 0, i, j, h1, h2 => by simp [runE] at h2; omega
  | d + 1, i, j, h1, h2 => by
    unfold runE at h2
    split at h2
    · rename_i c
      by_cases e : j = i
      · subst e; exact c
      · exact runE_in l lv d (i + 1) j (by omega) h2
    · omega
theorem layL_len (l : List Int) : ∀ k i te lv, i ≤ te → (layL l k i te lv).length ≤ te - i
  | 0, i, te, lv, h => by simp [layL]
  | k + 1, i, te, lv, h => by
    unfold layL
    by_cases c : i < te
    · rw [if_pos c]
      split
      · have := layL_len l k (i + 1) te lv (by omega)
        simp only [List.length_cons]; omega
      · have h0 := runE_le l lv (te - i) i
        have h1 := layL_len l k i (runE l lv (te - i) i) (lv + 1) (by omega)
        have h2 := layL_len l k (runE l lv (te - i) i) te lv (by omega)
        simp only [List.length_append, List.length_reverse]; omega
    · rw [if_neg c]; simp
theorem layL_len_eq (l : List Int) : ∀ (k i te lv : Nat), i ≤ te → (te - i) + (128 - lv) ≤ k → (∀ j : Nat, i ≤ j → j < te → (lv : Int) ≤ rd l (j : Int) ∧ rd l (j : Int) ≤ 127) → (layL l k i te lv).length = te - i
  | 0, i, te, lv, h, hk, _ => by simp [layL]; omega
  | k + 1, i, te, lv, h, hk, hj => by
    unfold layL
    by_cases c : i < te
    · rw [if_pos c]
      split
      · have := layL_len_eq l k (i + 1) te lv (by omega) (by omega) (fun j h1 h2 => hj j (by omega) h2)
        simp only [List.length_cons]; omega
      · rename_i cv
        have h0 := runE_le l lv (te - i) i
        have hi := hj i (Nat.le_refl _) c
        have hin := runE_in l lv (te - i) i
        have hlt : i < runE l lv (te - i) i := by
          obtain ⟨d, hd⟩ : ∃ d, te - i = d + 1 := ⟨te - i - 1, by omega⟩
          rw [hd, runE, if_pos (by omega)]
          have := runE_le l lv d (i + 1)
          omega
        have h1 := layL_len_eq l k i (runE l lv (te - i) i) (lv + 1) (by omega) (by omega) (fun j g1 g2 => ⟨by have := hin j g1 g2; omega, (hj j g1 (by omega)).2⟩)
        have h2 := layL_len_eq l k (runE l lv (te - i) i) te lv (by omega) (by omega) (fun j g1 g2 => hj j (by omega) g2)
        simp only [List.length_append, List.length_reverse]; omega
    · rw [if_neg c]; simp; omega
/-- The state: the row that is laid, and the boxes. -/
structure St (w0 : World) (O B L : Nat) (vB vL : Value) (W : World) (v : Value) (o : List Int) : Prop where
  bel : Below w0.heap.size w0 W
  bO : Boxed W O 22 v
  bB : Boxed W B 22 vB
  bL : Boxed W L 35 vL
  row : Row W w0.heap.size v o
section
variable {w0 W W' w1 : World} {O B L : Nat} {vB vL v v1 : Value} {o o' : List Int}
theorem row_own (h : Row W w0.heap.size v o) : ∃ inner, W.ownsRow w0.heap.size 3 1 v o.length inner := by
  obtain ⟨_, ys, h2, _⟩ := h
  exact ⟨ys, h2⟩
theorem St.put {g : Nat} (h : St w0 O B L vB vL W v o) (hg : v.ownBlock = some g) (hK : KA w0.heap.size g W W') (hr : Row W' w0.heap.size v o') : St w0 O B L vB vL W' v o' := by
  obtain ⟨inner, ho⟩ := row_own h.row
  have hO := h.bO.not_row (by decide) ho
  have hB := h.bB.not_row (by decide) ho
  have hL := h.bL.not_row (by decide) ho
  rw [hg] at hO hB hL
  exact ⟨h.bel.trans hK.bel, hK.keep _ _ h.bO (fun e => hO (by rw [e])), hK.keep _ _ h.bB (fun e => hB (by rw [e])), hK.keep _ _ h.bL (fun e => hL (by rw [e])), hr⟩
theorem St.app (h : St w0 O B L vB vL W v o) (hO : w0.heap.size ≤ O) (hBO : B ≠ O) (hLO : L ≠ O) (hg : W.grownBy w1 v.ownBlock) (hr : Row w1 w0.heap.size v1 o') (hb : Below w0.heap.size w0 w1) :
    Boxed w1 O 22 v ∧ St w0 O B L vB vL (w1.setCell ⟨O, 0, none⟩ v1) v1 o' := by
  obtain ⟨inner, ho⟩ := row_own h.row
  have b1 := h.bO.kept hg (h.bO.not_row (by decide) ho)
  have b2 := h.bB.kept hg (h.bB.not_row (by decide) ho)
  have b3 := h.bL.kept hg (h.bL.not_row (by decide) ho)
  obtain ⟨inner1, ho1⟩ := row_own hr
  have hn := b1.not_row (by decide) ho1
  refine ⟨b1, hb.setCell hO _, b1.set v1, b2.other hBO v1, b3.other hLO v1, ?_⟩
  exact Kd.R_grown2 hr rfl (grownBy_setCell' w1 O v1) (fun k hk => by cases hk; exact hn)
theorem St.below (h : St w0 O B L vB vL W v o) (hb : Below W.heap.size W W') : St w0 O B L vB vL W' v o :=
  ⟨h.bel.trans (hb.mono h.bel.size), blk_below h.bO hb, blk_below h.bB hb, blk_below h.bL hb, Kd.R_below h.row hb⟩
end
abbrev pt (k : Nat) : Value := .pointer (some ⟨k, 0, none⟩)
abbrev vlay (O B L : Nat) : Value := .func (.func 19) #[] #[pt O, pt B, pt L]

set_option maxHeartbeats 8000000 in
set_option maxRecDepth 100000 in
theorem lay_calls (w0 : World) (A0 : Option Addr) (c0 : Nat) (l : List Int) (O B L : Nat) (hO : w0.heap.size ≤ O) (hBO : B ≠ O) (hLO : L ≠ O) (hr0 : Kd.C (Kd.int .i64) w0 A0 l.length l) (hl : l.length * 8 ≤ 140737488351232) (h127 : ∀ j : Nat, j < l.length → rd l (j : Int) ≤ 127) :
    ∀ (K i0 te lv : Nat) (W : World) (v : Value) (o : List Int), i0 ≤ te → te ≤ l.length → (te - i0) + (128 - lv) ≤ K → (∀ j : Nat, i0 ≤ j → j < te → (lv : Int) ≤ rd l (j : Int)) → (0 < lv → i0 < te) → lv ≤ 127 ∨ i0 = te → o.length + (te - i0) ≤ l.length →
      St w0 O B L (.slice A0 l.length c0) (vlay O B L) W v o →
      Calls Try.prog 19 #[.int .i64 (i0 : Int), .int .i64 (te : Int), .int .i64 (lv : Int), pt O, pt B, pt L] W fun e W' => e = .returned (.tuple #[]) ∧ ∃ v', St w0 O B L (.slice A0 l.length c0) (vlay O B L) W' v' (o ++ turn lv (layL l K i0 te lv)) := by
  intro K
  induction K using Nat.strongRecOn with
  | ind K IH =>
  intro i0 te lv W v o h1 h2 h3 h4 h5 h6 h7 hst
  have HH := Aside0.mk (show i0 ≤ te ∧ te ≤ l.length ∧ (te - i0) + (128 - lv) ≤ K ∧ (0 < lv → i0 < te) ∧ o.length + (te - i0) ≤ l.length from ⟨h1, h2, h3, h5, h7⟩)
  have H4 := Aside0.mk h4
  have H6 := Aside0.mk h6
  have HL := Aside0.mk hl
  have H127 := Aside0.mk h127
  have IHH := Aside0.mk IH
  have HST := Aside0.mk hst
  obtain ⟨R, hR⟩ : ∃ R, R = o ++ layL l K i0 te lv := ⟨_, rfl⟩
  have HR := Aside0.mk hR
  have HO := Aside0.mk hO
  clear h1 h2 h3 h4 h5 h6 h7 hl h127 IH hR
  obtain ⟨Av, cv, ev⟩ := Kd.R_slice hst.row
  subst ev
  have k0 := hst.bO.cell
  clear hst
  go_enter Try.func19, Try.ntmps19
  go_wp2
  go_loopg [10] (te - i0) (fun kq v10 w' => ∃ (i k : Nat) (o2 : List Int) (v2 : Value), v10 = .int .i64 (i : Int) ∧ Aside0 (kq + i = te) ∧ Aside0 (i0 ≤ i ∧ (te - i) + (128 - lv) ≤ k ∧ k ≤ K) ∧ Aside0 (R = o2 ++ layL l k i te lv) ∧ Aside0 (o2.length + (te - i) ≤ l.length) ∧ Aside0 (St w0 O B L (.slice A0 l.length c0) (vlay O B L) w' v2 o2))
  case atStart => exact ⟨i0, K, o, _, rfl, ⟨by have := HH.out; omega⟩, ⟨by have := HH.out; omega⟩, ⟨HR.out⟩, ⟨HH.out.2.2.2.2⟩, HST⟩
  case round =>
    obtain ⟨i, k, o2, v2, rfl, HI, HK, HX, HLn, HS⟩ := hrel
    have q0 := HS.out.bB.cell
    have q1 := HS.out.bO.cell
    have q2 := HS.out.bL.cell
    by_cases ci : (i : Int) < (te : Int)
    · have hit : i < te := by omega
      obtain ⟨k, rfl⟩ : ∃ q, k = q + 1 := ⟨k - 1, by have := HK.out; omega⟩
      obtain ⟨ad, e, hx0⟩ := Kd.at_int (Kd.C_below hr0 HS.out.bel) (i : Int) (by omega) (by have := HH.out; omega)
      cases e
      simp only [Int.toNat_natCast] at hx0
      have cb : decide ((i : Int) < (te : Int)) = true := decide_eq_true ci
      have hi0 : (0 : Int) ≤ (i : Int) := by omega
      have cil : (i < l.length) = True := eq_true (by have := HH.out; omega)
      by_cases cv : rd l (i : Int) = (lv : Int)
      · have cvb : (rd l (i : Int) == (lv : Int)) = true := beq_iff_eq.2 cv
        have HL2 : Aside0 ((o2.length + 1) * 8 ≤ 140737488355328) := ⟨by have := HL.out; have := HLn.out; omega⟩
        have HB := Aside0.mk HS.out.bel
        have HRW := Aside0.mk HS.out.row
        have hwl := HS.out.bel.size
        clear hit
        go_wp2_with (first | ((with_reducible refine gate_builtin (b := .append) (xs := #[.tmp 24, .tmp 26]) rfl ?_); at_builtin; refine Kd.R_append (Kd.int .i64) (w0 := w0) w0.heap.size rfl (.tmp 24) (.tmp 26) 22 3 (.int .i64 0) 8 rfl Try.underlying22 info3 rfl (by decide) (by omega) v2 o2 (i : Int) [.int .i64 (i : Int)] (fun _ => True) (fun _ => False) rfl rfl ?aP (fun _ hk => hk.elim) ?aF ?aO ?aB ?aS ?aL ?_; (case aP => exact rfl); (case aB => exact HB.out); (case aF => exact (fun _ _ => trivial)); (case aO => exact HRW.out); (case aS => exact hwl); (case aL => exact HL2.out); intro v3 w7 ho hb hg hat; obtain ⟨A3, c3, e3⟩ := Kd.R_slice ho; have e4 : v3 = .slice A3 (o2.length + 1) c3 := (by rw [e3]; simp); subst e4; clear e3; obtain ⟨b1, st2⟩ := HS.out.app HO.out hBO hLO hg ho hb; have b1c := b1.cell; have b1f := b1.frozen; have HS2 := Aside0.mk st2; clear ho hb hg hat st2 b1))
        have HWR : Aside0 (wrap64 ((i : Int) + 1) = ((i + 1 : Nat) : Int)) := ⟨by unfold wrap64; have := HL.out; have := HH.out; have := HI.out; omega⟩
        go_roundg (gk - 1)
        case measure => have := HI.out; omega
        case rel => exact ⟨i + 1, k, o2 ++ [(i : Int)], _, by rw [HWR.out], ⟨by have := HI.out; omega⟩, ⟨by have := HK.out; omega⟩, ⟨by rw [HX.out, layL, if_pos (by omega), if_pos cv]; simp⟩, ⟨by have := HLn.out; simp only [List.length_append, List.length_cons, List.length_nil]; omega⟩, HS2⟩
      · have cvb : (rd l (i : Int) == (lv : Int)) = false := beq_eq_false_iff_ne.2 cv
        have hlv := H4.out i (by have := HK.out; omega) hit
        have hlv2 := H127.out i (by have := HH.out; omega)
        obtain ⟨E, hE⟩ : ∃ E, runE l lv (te - i) i = E := ⟨_, rfl⟩
        have hle := runE_le l lv (te - i) i
        have hin := runE_in l lv (te - i) i
        have hlt : i < E := by
          rw [← hE]
          obtain ⟨d, hd⟩ : ∃ d, te - i = d + 1 := ⟨te - i - 1, by omega⟩
          rw [hd, runE, if_pos (by omega)]
          have := runE_le l lv d (i + 1)
          omega
        rw [hE] at hle hin
        have HE := Aside0.mk hE
        have HIN := Aside0.mk hin
        have HLE := Aside0.mk (show i < E ∧ E ≤ te ∧ (lv : Int) < rd l (i : Int) ∧ rd l (i : Int) ≤ 127 ∧ ¬ rd l (i : Int) = (lv : Int) by omega)
        have HIT := Aside0.mk hit
        clear hE hin hlt hle hlv hlv2 hit cv
        have hB := HS.out.bel
        have hr1 := Kd.C_below hr0 hB
        have HR1 := Aside0.mk hr1
        clear hB hr1
        go_wp2
        go_loopg [11] (te - i) (fun kq v11 w' => ∃ (e : Nat), w' = wr ∧ v11 = .int .i64 (e : Int) ∧ Aside0 (kq + e = te) ∧ Aside0 (i ≤ e) ∧ Aside0 (runE l lv kq e = E))
        case atStart => exact ⟨i, rfl, rfl, ⟨by have := HIT.out; omega⟩, ⟨Nat.le_refl _⟩, HE⟩
        case round =>
          obtain ⟨e, rfl, rfl, HI3, HI4, HX3⟩ := hrel
          by_cases ce : (e : Int) < (te : Int)
          · have heb : decide ((e : Int) < (te : Int)) = true := decide_eq_true ce
            have het : e < te := by omega
            obtain ⟨d, rfl⟩ : ∃ d, gk = d + 1 := ⟨gk - 1, by have := HI3.out; omega⟩
            have hx3 := HX3.out
            rw [runE] at hx3
            obtain ⟨ad2, e2, hx1⟩ := Kd.at_int HR1.out (e : Int) (by omega) (by have := HH.out; omega)
            obtain rfl : ad = ad2 := (by injection e2)
            simp only [Int.toNat_natCast] at hx1
            have cel : (e < l.length) = True := eq_true (by have := HH.out; omega)
            have he0 : (0 : Int) ≤ (e : Int) := by omega
            have HWE : Aside0 (wrap64 ((e : Int) + 1) = ((e + 1 : Nat) : Int)) := ⟨by unfold wrap64; have := HL.out; have := HH.out; omega⟩
            by_cases cr : (lv : Int) < rd l (e : Int)
            · rw [if_pos cr] at hx3
              have HX4 := Aside0.mk hx3
              have crb : decide ((lv : Int) < rd l (e : Int)) = true := decide_eq_true cr
              clear hx3 HX3
              go_wp2
              go_roundg d
              case measure => omega
              case rel => exact ⟨e + 1, rfl, by rw [HWE.out], ⟨by have := HI3.out; omega⟩, ⟨by have := HI4.out; omega⟩, HX4⟩
            · rw [if_neg cr] at hx3
              have crb : decide ((lv : Int) < rd l (e : Int)) = false := decide_eq_false cr
              subst hx3
              have HIH : Aside0 (Calls Try.prog 19 #[.int .i64 (i : Int), .int .i64 (e : Int), .int .i64 (wrap64 ((lv : Int) + 1)), pt O, pt B, pt L] wr fun e_ W' => e_ = .returned (.tuple #[]) ∧ ∃ v', St w0 O B L (.slice (some ad) l.length c0) (vlay O B L) W' v' (o2 ++ (layL l k i e (lv + 1)).reverse)) := ⟨by
                have hw : wrap64 ((lv : Int) + 1) = ((lv + 1 : Nat) : Int) := by unfold wrap64; have := HLE.out; omega
                rw [hw]
                have := IHH.out k (by have := HK.out; omega) i e (lv + 1) wr v2 o2 (by have := HLE.out; omega) (by have := HLE.out; have := HH.out; omega) (by have := HLE.out; have := HK.out; omega) (fun j g1 g2 => by have := HIN.out j g1 g2; omega) (fun _ => HLE.out.1) (.inl (by have := HLE.out; omega)) (by have := HLE.out; have := HLn.out; omega) HS.out
                rw [turn, if_pos (by omega)] at this
                exact this⟩
              go_wp2_with (go_at_call 19; refine HIH.out.mono ?_; rintro e_ w9 ⟨rfl, v9, st9⟩; have HS9 := Aside0.mk st9; clear st9)
              go_roundg (te - e)
              case measure => have := HI.out; have := HLE.out; omega
              case rel => exact ⟨e, k, _, v9, rfl, ⟨by have := HLE.out; omega⟩, ⟨by have := HK.out; have := HLE.out; omega⟩, ⟨by rw [HX.out, layL, if_pos HIT.out, if_neg HLE.out.2.2.2.2, HE.out, List.append_assoc]⟩, ⟨by have := layL_len l k i e (lv + 1) (by have := HLE.out; omega); have := HLE.out; have := HLn.out; simp only [List.length_append, List.length_reverse]; omega⟩, HS9⟩
          · have heb : decide ((e : Int) < (te : Int)) = false := decide_eq_false ce
            obtain rfl : gk = 0 := by have := HI3.out; omega
            have hx3 := HX3.out
            rw [runE] at hx3
            subst hx3
            have HIH : Aside0 (Calls Try.prog 19 #[.int .i64 (i : Int), .int .i64 (e : Int), .int .i64 (wrap64 ((lv : Int) + 1)), pt O, pt B, pt L] wr fun e_ W' => e_ = .returned (.tuple #[]) ∧ ∃ v', St w0 O B L (.slice (some ad) l.length c0) (vlay O B L) W' v' (o2 ++ (layL l k i e (lv + 1)).reverse)) := ⟨by
              have hw : wrap64 ((lv : Int) + 1) = ((lv + 1 : Nat) : Int) := by unfold wrap64; have := HLE.out; omega
              rw [hw]
              have := IHH.out k (by have := HK.out; omega) i e (lv + 1) wr v2 o2 (by have := HLE.out; omega) (by have := HLE.out; have := HH.out; omega) (by have := HLE.out; have := HK.out; omega) (fun j g1 g2 => by have := HIN.out j g1 g2; omega) (fun _ => HLE.out.1) (.inl (by have := HLE.out; omega)) (by have := HLE.out; have := HLn.out; omega) HS.out
              rw [turn, if_pos (by omega)] at this
              exact this⟩
            go_wp2_with (go_at_call 19; refine HIH.out.mono ?_; rintro e_ w9 ⟨rfl, v9, st9⟩; have HS9 := Aside0.mk st9; clear st9)
            go_roundg (te - e)
            case measure => have := HI.out; have := HLE.out; omega
            case rel => exact ⟨e, k, _, v9, rfl, ⟨by have := HLE.out; omega⟩, ⟨by have := HK.out; have := HLE.out; omega⟩, ⟨by rw [HX.out, layL, if_pos HIT.out, if_neg HLE.out.2.2.2.2, HE.out, List.append_assoc]⟩, ⟨by have := layL_len l k i e (lv + 1) (by have := HLE.out; omega); have := HLE.out; have := HLn.out; simp only [List.length_append, List.length_reverse]; omega⟩, HS9⟩
    · have cb : decide ((i : Int) < (te : Int)) = false := decide_eq_false ci
      have hx := HX.out
      have hie : layL l k i te lv = [] := by
        cases k with
        | zero => rfl
        | succ k => rw [layL, if_neg (by omega)]
      rw [hie, List.append_nil] at hx
      subst hx
      have hlen := layL_len_eq l K i0 te lv HH.out.1 HH.out.2.2.1 (fun j g1 g2 => ⟨H4.out j g1 g2, H127.out j (by have := HH.out; omega)⟩)
      have hRl : R.length = o.length + (te - i0) := by rw [HR.out, List.length_append, hlen]
      clear hie hlen
      by_cases c0v : 0 < lv
      · have c0b : decide ((0 : Int) < (lv : Int)) = true := decide_eq_true (by omega)
        have hpos : 0 < R.length := by have := HH.out; omega
        obtain ⟨A2, c2, e2⟩ := Kd.R_slice HS.out.row
        subst e2
        obtain ⟨g, e3, hg⟩ := row_open HS.out.row rfl hpos
        subst e3
        have hcc := (Kd.R_reads' HS.out.row).2.1
        have HREV := Aside0.mk (rev_calls wr w0.heap.size w0.heap.size g o.length (R.length - o.length) (c2 - o.length) c2 R HS.out.row (by omega) (by have := HL.out; have := HH.out; omega) hg (by omega))
        have s1 : (o.length ≤ R.length) = True := eq_true (by omega)
        have s2 : (R.length ≤ c2) = True := eq_true hcc
        have s3 : (c2 = o.length) = False := eq_false (by have := HH.out; omega)
        have HS2 := HS
        have HRL := Aside0.mk hRl
        clear hRl hcc hg
        go_wp2_with (go_at_call 20; refine HREV.out.mono ?_; rintro e_ w9 ⟨rfl, hrow9, hk9⟩)
        first | go_end0 | ((try simp only [Exit.inBlock, Exit.then]); refine bodyPost_ret (results_none rfl _ _ _) rfl ?_)
        refine ⟨rfl, _, HS2.out.put (g := g) rfl hk9 ?_⟩
        have e5 : o ++ turn lv (layL l K i0 te lv) = R.take o.length ++ (R.drop o.length).reverse := by
          rw [HR.out, turn, if_pos c0v]
          simp
        rw [e5]
        exact hrow9
      · have c0b : decide ((0 : Int) < (lv : Int)) = false := decide_eq_false (by omega)
        go_wp2
        first | go_end0 | ((try simp only [Exit.inBlock, Exit.then]); refine bodyPost_ret (results_none rfl _ _ _) rfl ?_)
        refine ⟨rfl, v2, ?_⟩
        rw [turn, if_neg c0v, ← HR.out]
        exact HS.out
end Go.Proofs.Ytbkgggcpkiddmaa.P
