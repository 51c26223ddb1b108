/- slices.Repeat of a row of one whole number. -/
import Derived.Test.YtbkgggcpkiddmaaP7
import Derived.Laws.CopyOwn
import Derived.Deep.RegionLaw
import Derived.Shelf.Abstract
import Derived.Conc.WgArith
namespace Go.Proofs.Ytbkgggcpkiddmaa.P
open Go.RowKit Go.Shelf Go.Proofs.YtbkgggcpkiddmaaW.PrintWords Go.Proofs.YtbkgggcpkiddmaaW.PrintLast Go.Proofs.YtbkgggcpkiddmaaW.PrintMore
set_option linter.unusedVariables false
set_option linter.unusedSimpArgs false
def slices_Repeat_int_int.f (l : List Int) (n : Int) : Option (List Int) := if l.length = 1 ∧ 0 ≤ n ∧ n ≤ 17592186044416 then some (List.replicate n.toNat (rd l 0)) else none
theorem mul_one_n (n : Int) (h0 : 0 ≤ n) (h1 : n ≤ 17592186044416) : bits_Mul.f 1 n = some (0, n) := by
  have e1 : (Go.bits .and .u64 1 4294967295 : Int) = 1 := by decide +kernel
  have e2 : (Go.bits .and .u64 n 4294967295 : Int) = n % 4294967296 := by
    have h := bits_mask .u64 63 (by decide) ConcN.wraps_u64_63 32 (by decide) n h0 (by omega)
    have e : ((2 : Int) ^ 32 - 1) = 4294967295 := by decide
    have e' : ((2 : Int) ^ 32) = 4294967296 := by decide
    rw [e, e'] at h
    exact h
  have e3 : (Go.bits .and .u64 0 4294967295 : Int) = 0 := by decide +kernel
  have e4 : (IntKind.u64.wrap ((IntKind.u64.wrap ((1 / 4294967296 : Int) * (n % 4294967296))) + ((IntKind.u64.wrap (1 * (n % 4294967296))) / 4294967296))) = 0 := by
    simp only [IntKind.wrap_u64]; omega
  unfold bits_Mul.f bits_Mul64.f
  simp only [Option.bind_some, Option.some.injEq, Prod.mk.injEq]
  rw [e1, e2, e4, e3]
  simp only [IntKind.wrap_u64]
  omega
theorem splice_take {α : Type} (cur : List α) (i m : Nat) (x : α) (hi : i ≤ cur.length) (h : cur.take i = List.replicate i x) : (splice cur i (List.replicate m x)).take (i + m) = List.replicate (i + m) x := by
  unfold splice
  rw [h, List.take_append]
  simp
/-- What is copied so far, the row's block being open. -/
structure Cop (w : World) (n g N cap i : Nat) (x : Int) (W : World) : Prop where
  bel : Below n w W
  blk : ∃ cur : List Value, W.heap[g]? = some (.cells cur.toArray 3 (0, 0)) ∧ cur.length = cap ∧ cur.take i = List.replicate i (.int .i64 x)
theorem rep_open {w W : World} {v : Value} {k : Nat} {l : List Int} (h : (Kd.int .i64).R 3 W w.heap.size (fun _ => True) v l) (hv : v.ownBlock = some k) (hb : Below w.heap.size w W) :
    ∃ g cap, v = .slice (some ⟨g, 0, none⟩) l.length cap ∧ l.length ≤ cap ∧ cap ≤ maxLen ∧ w.heap.size ≤ g ∧ ∃ cur : List Value, W.heap[g]? = some (.cells cur.toArray 3 (0, 0)) ∧ cur.length = cap ∧ cur.take l.length = l.map (Value.int .i64) := by
  have ho := Kd.own_of_R h
  rcases ho.2 with ⟨rfl, _⟩ | ⟨g, cap, cur, rfl, hg, hh, h1, h2, h3, h4⟩
  · cases hv
  · exact ⟨g, cap, rfl, h1, h2, hg, cur.toList, by simpa using hh, by simpa using h3, by simpa [encs] using h4⟩
theorem rep_shut {w W : World} {g N cap : Nat} {x : Int} (h : Cop w w.heap.size g N cap N x W) (h1 : N ≤ cap) (h2 : cap ≤ maxLen) (hg : w.heap.size ≤ g) :
    (Kd.int .i64).R 3 W w.heap.size (fun _ => True) (.slice (some ⟨g, 0, none⟩) N cap) (List.replicate N x) := by
  obtain ⟨_, cur, hh, hl, ht⟩ := h
  refine Kd.R_of_own ?_ (fun _ _ => trivial)
  rw [List.length_replicate]
  exact ⟨by simp [encs], .inr ⟨g, cap, cur.toArray, rfl, hg, hh, h1, h2, by simpa using hl, by simp [encs, ht]⟩⟩
theorem info3s : (Try.prog.info? 3).map (·.size) = some 1 := by kernel_rfl
set_option maxHeartbeats 8000000 in
set_option maxRecDepth 100000 in
theorem slices_Repeat_int_int.calls (A0 : Option Addr) (c0 : Nat) (l0 : List Int) (a1 : Int) (r : List Int) (w : World) (hr0 : Kd.C (Kd.int .i64) w A0 l0.length l0) (hc0 : l0.length ≤ c0) (h : slices_Repeat_int_int.f l0 a1 = some r) :
    Calls Try.prog 22 #[.slice A0 l0.length c0, .int .i64 a1] w fun e w' => ∃ v0_ : Value, e = .returned (v0_) ∧ Kd.R (Kd.int .i64) 3 w' w.heap.size (fun _ => True) v0_ r ∧ Below w.heap.size w w' := by
  unfold slices_Repeat_int_int.f at h
  by_cases c : l0.length = 1 ∧ 0 ≤ a1 ∧ a1 ≤ 17592186044416
  case neg => rw [if_neg c] at h; cases h
  rw [if_pos c] at h
  obtain ⟨c1, c2, c3⟩ := c
  obtain ⟨x, rfl⟩ : ∃ x, l0 = [x] := by
    match l0, c1 with
    | [x], _ => exact ⟨x, rfl⟩
  obtain ⟨N, rfl⟩ := Int.eq_ofNat_of_zero_le c2
  have hx : rd [x] 0 = x := rfl
  rw [hx, Int.toNat_natCast, Option.some.injEq] at h
  subst h
  have HR0 := Aside0.mk hr0
  have HN := Aside0.mk (show N ≤ 17592186044416 by omega)
  have HM := Aside0.mk (mul_one_n (N : Int) c2 c3)
  have g1 : decide ((N : Int) < 0) = false := decide_eq_false (by omega)
  have g2 : decide ((9223372036854775807 : Int) < (N : Int)) = false := decide_eq_false (by omega)
  have HW : Aside0 (IntKind.u64.wrap (N : Int) = (N : Int)) := ⟨by simp only [IntKind.wrap_u64]; omega⟩
  have HW2 : Aside0 (wrap64 (N : Int) = (N : Int)) := ⟨by unfold wrap64; omega⟩
  clear hr0 c1 c2 c3 hx
  go_enter Try.func22, Try.ntmps22
  have HB := Aside0.mk (Below.refl w.heap.size w)
  go_wp2_with (first | (rw [HW.out]) | (rw [HW2.out]) | (go_at_call 24; refine (bits_Mul.calls 1 (N : Int) 0 (N : Int) _ HM.out).mono ?_; rintro e w1 ⟨rfl, ⟨nd, rfl⟩⟩) |
    ((with_reducible refine gate_dst (N := 30) rfl ?_); refine Kd.R_make (Kd.int .i64) (w0 := w) w.heap.size 3 rfl rfl 22 (.tmp 29) (.tmp 29) rfl (N : Int) rfl rfl Try.underlying22 (.int .i64 0) 8 info3 rfl (by decide) (by decide) 0 (ok := fun _ => True) (okp := fun _ => True) rfl (fun _ h => h) trivial (by omega) (by have := HN.out; omega) ?aB ?aS ?_; (case aB => exact pw_below_drewN HB.out _); (case aS => exact below_size (pw_below_drewN HB.out _)); intro v2 w2 ho hb hg hat; rw [Int.toNat_natCast] at ho; have HO2 := Aside0.mk ho; have HB2 := Aside0.mk hb; obtain ⟨bk, hbk, _⟩ := hat; have HBK := Aside0.mk hbk; clear ho hb hg hbk) |
    ((with_reducible refine gate_builtin (b := .copy) (xs := #[.tmp 31, .tmp 32]) rfl ?_); refine Kd.R_copy (enc := Value.int .i64) (h1 := fun _ => rfl) (d := 0) (w0 := w) w.heap.size rfl (.tmp 31) (.tmp 32) 22 22 3 rfl Try.underlying22 info3s v2 (List.replicate N 0) [x] A0 1 c0 (fun _ => True) rfl rfl HO2.out (Kd.C_below HR0.out HB2.out) HB2.out HB2.out.size ?_; intro w3 ho hb hg; have HO3 := Aside0.mk ho; have HB3 := Aside0.mk hb; clear ho hb hg))
  obtain ⟨m, hm⟩ : ∃ m, min 1 N = m := ⟨_, rfl⟩
  obtain ⟨g, cap, ev, hle, hcap, hgn, cur, hcur, hcl, hct⟩ := rep_open HO3.out HBK.out HB3.out
  simp only [List.length_replicate] at ev hle hct ⊢
  have hlen : (List.take (min 1 N) [x] ++ List.drop (min 1 N) (List.replicate N (0 : Int))).length = N := by simp; omega
  rw [hlen] at ev hle hct
  rw [hm] at hct ⊢
  have hct2 : cur.take m = List.replicate m (.int .i64 x) := by
    have h1 : cur.take m = (cur.take N).take m := by rw [List.take_take]; congr 1; omega
    rw [h1, hct]
    rcases Nat.lt_or_ge 0 m with h | h
    · obtain rfl : m = 1 := by omega
      simp
    · obtain rfl : m = 0 := by omega
      simp
  subst ev
  have HC0 : Aside0 (Cop w w.heap.size g N cap m x w3) := ⟨HB3.out, cur, hcur, hcl, hct2⟩
  have HMN : Aside0 (m ≤ N ∧ (0 < N → 0 < m)) := ⟨by omega⟩
  have HLE := Aside0.mk hle
  have HCAP := Aside0.mk hcap
  have HGN := Aside0.mk hgn
  clear hlen hct hct2 hcur hcl hm HO3 HB3 HBK HO2 HB2 HM hle hcap hgn
  go_loopg [8] (N - m) (fun kq v8 w' => ∃ i : Nat, v8 = .int .i64 (i : Int) ∧ Aside0 (i ≤ N ∧ (0 < N → 0 < i)) ∧ Aside0 (kq + i = N) ∧ Aside0 (Cop w w.heap.size g N cap i x w'))
  case atStart => exact ⟨m, rfl, HMN, ⟨by have := HMN.out; omega⟩, HC0⟩
  case round =>
    clear HC0 HMN
    obtain ⟨i, rfl, HI, HK, HC⟩ := hrel
    by_cases ci : (i : Int) < (N : Int)
    · have cb : decide ((i : Int) < (N : Int)) = true := decide_eq_true ci
      obtain ⟨hbel, cur, hcur, hcl, hct⟩ := HC.out
      have s1 : (i ≤ N) = True := eq_true (by omega)
      have s2 : (N ≤ cap) = True := eq_true HLE.out
      have s3 : (cap = i) = False := eq_false (by have := HLE.out; omega)
      have s4 : (i ≤ cap) = True := eq_true (by have := HLE.out; omega)
      have HCU := Aside0.mk (blk_drew hcur)
      have HBD := Aside0.mk (below_drew1 hbel)
      have HCL := Aside0.mk hcl
      have HCT := Aside0.mk hct
      have HII := Aside0.mk (show i < N by omega)
      have HFIT : Aside0 (i + (List.replicate (min i (N - i)) (Value.int .i64 x)).length ≤ cur.length) := ⟨by have := HLE.out; rw [List.length_replicate]; omega⟩
      have HPOS : Aside0 (0 < (List.replicate (min i (N - i)) (Value.int .i64 x)).length → ∀ j v, (List.replicate (min i (N - i)) (Value.int .i64 x))[j]? = some v → wr.drew.cell? ((⟨g, 0, none⟩ : Addr).add j) = some v) := ⟨fun _ j v hj => by
        have hj2 : j < min i (N - i) := by
          rcases Nat.lt_or_ge j (min i (N - i)) with h | h
          · exact h
          · rw [List.getElem?_eq_none (by simpa using h)] at hj; cases hj
        rw [List.getElem?_replicate, if_pos hj2] at hj
        obtain rfl := Option.some.inj hj
        have hcj : cur[j]? = some (.int .i64 x) := by
          have : (cur.take i)[j]? = some (.int .i64 x) := by rw [HCT.out, List.getElem?_replicate, if_pos (by omega)]
          rw [List.getElem?_take] at this
          simpa [show j < i by omega] using this
        have := cell_of_row wr.drew g j cur.toArray 3 (0, 0) HCU.out
        simp only [add_plain, Nat.zero_add] at this ⊢
        rw [this]
        simpa using hcj⟩
      clear hbel hcur hcl hct
      go_wp2
      refine start_ (n := 10) (S := fun _ => True) (ds := [7]) #[false, false, false, false, false, false, false, false, false, false] (by kernel_rfl) rfl rfl trivial (fun hHeld => ?_)
      refine pure_ (i := 0) (N := some 38) (v := ?_) (a' := ?_) #[true, false, false, false, false, false, false, false, false, false] rfl rfl (by kernel_rfl) (fun _ _ _ h => h) (Or.inl ⟨by rfl, ?_⟩) ?_ ?_
      rotate_left
      · intro w'
        go_simp
        with_reducible rfl
      rotate_left
      · simp only [Act.put, List.setIfInBounds_toArray, List.set_cons_zero, List.set_cons_succ, i64_w, i32_w]
        rfl
      refine pure_ (i := 1) (N := some 39) (v := ?_) (a' := ?_) #[true, true, false, false, false, false, false, false, false, false] rfl rfl (by kernel_rfl) (fun _ _ _ h => h) (Or.inl ⟨by rfl, ?_⟩) ?_ ?_
      rotate_left
      · intro w'
        go_simp
        with_reducible rfl
      rotate_left
      · simp only [Act.put, List.setIfInBounds_toArray, List.set_cons_zero, List.set_cons_succ, i64_w, i32_w]
        rfl
      refine pure_ (i := 2) (N := some 40) (v := ?_) (a' := ?_) #[true, true, true, false, false, false, false, false, false, false] rfl rfl (by kernel_rfl) (fun _ _ _ h => h) (Or.inl ⟨by rfl, ?_⟩) ?_ ?_
      rotate_left
      · intro w'
        go_simp
        with_reducible rfl
      rotate_left
      · simp only [Act.put, List.setIfInBounds_toArray, List.set_cons_zero, List.set_cons_succ, i64_w, i32_w]
        rfl
      refine pure_ (i := 3) (N := some 41) (v := ?_) (a' := ?_) #[true, true, true, true, false, false, false, false, false, false] rfl rfl (by kernel_rfl) (fun _ _ _ h => h) (Or.inl ⟨by rfl, ?_⟩) ?_ ?_
      rotate_left
      · intro w'
        go_simp
        with_reducible rfl
      rotate_left
      · simp only [Act.put, List.setIfInBounds_toArray, List.set_cons_zero, List.set_cons_succ, i64_w, i32_w]
        rfl
      refine pure_ (i := 4) (N := some 42) (v := ?_) (a' := ?_) #[true, true, true, true, true, false, false, false, false, false] rfl rfl (by kernel_rfl) (fun _ _ _ h => h) (Or.inl ⟨by rfl, ?_⟩) ?_ ?_
      rotate_left
      · intro w'
        go_simp
        with_reducible rfl
      rotate_left
      · simp only [Act.put, List.setIfInBounds_toArray, List.set_cons_zero, List.set_cons_succ, i64_w, i32_w]
        rfl
      refine pure_ (i := 5) (N := some 43) (v := ?_) (a' := ?_) #[true, true, true, true, true, true, false, false, false, false] rfl rfl (by kernel_rfl) (fun _ _ _ h => h) (Or.inl ⟨by rfl, ?_⟩) ?_ ?_
      rotate_left
      · intro w'
        go_simp
        with_reducible rfl
      rotate_left
      · simp only [Act.put, List.setIfInBounds_toArray, List.set_cons_zero, List.set_cons_succ, i64_w, i32_w]
        rfl
      refine pure_ (i := 6) (N := some 44) (v := ?_) (a' := ?_) #[true, true, true, true, true, true, true, false, false, false] rfl rfl (by kernel_rfl) (fun _ _ _ h => h) (Or.inl ⟨by rfl, ?_⟩) ?_ ?_
      rotate_left
      · intro w'
        go_simp
        with_reducible rfl
      rotate_left
      · simp only [Act.put, List.setIfInBounds_toArray, List.set_cons_zero, List.set_cons_succ, i64_w, i32_w]
        rfl
      refine last_ (i := 7) (N := some 45) #[true, true, true, true, true, true, true, true, false, false] rfl rfl (by kernel_rfl) (by decide) (fun K hK => ?_)
      refine step_copy_splice rfl (.tmp 41) (.tmp 44) 22 22 rfl 3 Try.underlying22 info3s (some ⟨g, i, none⟩) (some ⟨g, 0, none⟩) (N - i) (cap - i) i cap rfl rfl g i cur 3 HCU.out (List.replicate (min i (N - i)) (.int .i64 x)) (by simp) (fun h => ⟨rfl, _, rfl, HPOS.out h⟩) HFIT.out (by intro v hv; obtain ⟨_, rfl⟩ := List.mem_replicate.1 hv; rfl) w.heap.size w HBD.out HGN.out ?_
      intro w4 hg4 hb4
      refine hK.out _ _ ?_
      clear hK K
      rw [List.length_replicate]
      obtain ⟨q, hq⟩ : ∃ q, min i (N - i) = q := ⟨_, rfl⟩
      rw [hq] at hg4 ⊢
      simp only [Act.put, List.getElem_toArray, List.getElem_cons_succ, List.getElem_cons_zero, List.setIfInBounds_toArray, List.set_cons_zero, List.set_cons_succ, goInt]
      refine pure_ (i := 8) (N := some 46) (v := ?_) (a' := ?_) #[true, true, true, true, true, true, true, true, true, false] rfl rfl (by kernel_rfl) (fun _ _ _ h => h) (Or.inl ⟨by rfl, ?_⟩) ?_ ?_
      rotate_left
      · intro w'
        go_simp
        with_reducible rfl
      rotate_left
      · simp only [Act.put, List.setIfInBounds_toArray, List.set_cons_zero, List.set_cons_succ, i64_w, i32_w]
        rfl
      refine pure_ (i := 9) (N := some 8) (v := ?_) (a' := ?_) #[true, true, true, true, true, true, true, true, true, true] rfl rfl (by kernel_rfl) (fun _ _ _ h => h) (Or.inl ⟨by rfl, ?_⟩) ?_ ?_
      rotate_left
      · intro w'
        go_simp
        with_reducible rfl
      rotate_left
      · simp only [Act.put, List.setIfInBounds_toArray, List.set_cons_zero, List.set_cons_succ, i64_w, i32_w]
        rfl
      refine done_ (by kernel_rfl) ?_
      have HQ := Aside0.mk hq
      have hfit := HFIT.out
      rw [hq] at hfit
      have hcut := show w4.heap[g]? = some (Obj.cells (splice cur i (List.replicate q (Value.int IntKind.i64 x))).toArray 3) from hg4
      have HC4 : Aside0 (Cop w w.heap.size g N cap (i + q) x w4) := ⟨hb4, _, hcut, by rw [length_splice _ _ _ hfit]; exact HCL.out, splice_take cur i _ _ (by omega) HCT.out⟩
      have HWR : Aside0 (wrap64 ((i : Int) + ((q : Nat) : Int)) = ((i + q : Nat) : Int)) := ⟨by unfold wrap64; have := HN.out; have := HII.out; omega⟩
      clear hcut hg4 hb4 hq hfit
      try go_wp2
      go_roundg (N - (i + q))
      case measure => have := HII.out; have := HI.out; have := HK.out; have := HQ.out; omega
      case rel => exact ⟨i + q, by rw [HWR.out], ⟨by have := HII.out; have := HI.out; have := HQ.out; omega⟩, ⟨by have := HQ.out; have := HII.out; omega⟩, HC4⟩
    · have cb : decide ((i : Int) < (N : Int)) = false := decide_eq_false ci
      obtain rfl : i = N := by have := HI.out; omega
      go_wp2
      go_ret
      exact ⟨_, rfl, rep_shut HC.out HLE.out HCAP.out HGN.out, HC.out.bel⟩
end Go.Proofs.Ytbkgggcpkiddmaa.P
