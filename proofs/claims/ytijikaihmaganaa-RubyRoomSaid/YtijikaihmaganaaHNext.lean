/- utf.Next: the first scalar of bytes. -/
import Derived.Test.YtijikaihmaganaaP4
import Derived.Test.YtijikaihmaganaaHEncode
import Derived.OwnWalk
namespace Go.Proofs.Ytijikaihmaganaa.P
open Go.RowKit Go.Shelf Go.Proofs.YtijikaihmaganaaW.PrintWords Go.Proofs.YtijikaihmaganaaW.PrintLast Go.Proofs.YtijikaihmaganaaW.PrintMore
set_option linter.unusedVariables false
set_option linter.unusedSimpArgs false

/-- How many bytes a scalar has that begins so; 0: none does. -/
def lenF (c : Int) : Nat := if c < 128 then 1 else if 192 ≤ c ∧ c < 224 then 2 else if 224 ≤ c ∧ c < 240 then 3 else if 240 ≤ c ∧ c < 248 then 4 else 0
def headF : Nat → Int
  | 2 => 192
  | 3 => 224
  | 4 => 240
  | _ => 0
def limF : Nat → Int
  | 2 => 128
  | 3 => 2048
  | 4 => 65536
  | _ => 0
def tailsF : List Int → Int → Option Int
  | [], c => some c
  | x :: r, c => if 128 ≤ x ∧ x < 192 then tailsF r (64 * c + x % 64) else none
/-- The first scalar of bytes, how many bytes it has, and the error. -/
def nextL (b : List Int) : Int × Int × Int :=
  if lenF (rd b 0) = 0 ∨ b.length < lenF (rd b 0) ∨ b = [] then (0, 0, 11) else
  match tailsF ((b.take (lenF (rd b 0))).drop 1) (rd b 0 - headF (lenF (rd b 0))) with
  | none => (0, 0, 11)
  | some c => if scalB c = true ∧ limF (lenF (rd b 0)) ≤ c then (c, (lenF (rd b 0) : Int), 0) else (0, 0, 11)
def byteB (x : Int) : Bool := decide (0 ≤ x) && decide (x < 256)
def utf_Next.f (b : List Int) : Option (Int × Int × Int) := if b.all byteB = true ∧ b.length < 9223372036854775807 then some (nextL b) else none
theorem len_eq (c : Int) (k : Nat) : utf_length.f (k + 2) c = some (lenF c : Int) := by
  simp only [utf_length.f, utf_length.j0, utf_length.j1, lenF, decide_eq_true_eq, Bool.false_eq_true, if_false]
  repeat' split
  all_goals first | rfl | (exfalso; omega)
theorem cont_eq (x : Int) (h0 : 0 ≤ x) (h1 : x < 256) : (bits .andNot .i64 x 63 != 128) = !decide (128 ≤ x ∧ x < 192) := by
  have key : ∀ n : Fin 256, (bits .andNot .i64 ((n.1 : Nat) : Int) 63 != 128) = !decide (128 ≤ ((n.1 : Nat) : Int) ∧ ((n.1 : Nat) : Int) < 192) := by decide +kernel
  obtain ⟨n, rfl⟩ := Int.eq_ofNat_of_zero_le h0
  exact key ⟨n, by omega⟩
theorem join_eq (c x : Int) (h0 : 0 ≤ c) (h1 : c < 1099511627776) (h2 : 0 ≤ x) (h3 : x < 256) : bits .or .i64 (wrap64 (c * 64)) (bits .and .i64 x 63) = 64 * c + x % 64 := by
  have hw : wrap64 (c * 64) = c * 64 := by unfold wrap64; omega
  have e1 := bits_mask .i64 62 (by decide) wraps_i64 6 (by decide) x h2 (by omega)
  rw [show ((2 : Int) ^ 6 - 1) = 63 by decide, show ((2 : Int) ^ 6) = 64 by decide] at e1
  have e2 := bits_join .i64 62 (by decide) wraps_i64 6 (c * 64) (x % 64) (by omega) (by omega) (by omega) (by omega) (by omega) (by omega)
  rw [hw, e1, e2]
  omega
theorem rd_nth (l : List Int) (j : Nat) (h : j < l.length) : rd l (j : Int) = l[j] := by unfold rd; simp [List.getD_eq_getElem?_getD, h]
theorem byte_at {l : List Int} (h : l.all byteB = true) (j : Nat) (hj : j < l.length) : 0 ≤ rd l (j : Int) ∧ rd l (j : Int) < 256 := by
  have := List.all_eq_true.1 h l[j] (List.getElem_mem hj)
  unfold byteB at this
  rw [rd_nth l j hj]
  simpa using this
theorem add1 (a : Addr) (j : Nat) : (a.add 1).add j = ⟨a.block, a.off + 1 + j, none⟩ := by unfold Addr.add; split <;> simp_all
theorem cell0 {w W : World} {ad : Addr} {l : List Int} {b0 : Int} (h : Kd.C (Kd.int .u8) w (some ad) l.length l) (hb : Below w.heap.size w W) (hl : 0 < l.length ∧ rd l 0 = b0) : W.cell? ad = some (.int .u8 b0) := by
  obtain ⟨ad2, e, hx⟩ := Kd.at_int (Kd.C_below h hb) 0 (by omega) (by omega)
  cases e
  simp only [Int.toNat_zero] at hx
  rw [show ad.add 0 = ad by unfold Addr.add; split <;> simp_all, hl.2] at hx
  exact hx
set_option maxHeartbeats 4000000 in
set_option maxRecDepth 100000 in
theorem next1 (A0 : Option Addr) (c0 : Nat) (l0 : List Int) (w : World) (hr0 : Kd.C (Kd.int .u8) w A0 l0.length l0) (hc0 : l0.length ≤ c0) (hb : l0.all byteB = true) (hl : l0.length < 9223372036854775807) (hn : 1 ≤ l0.length) (h1 : 0 ≤ rd l0 0) (h2 : rd l0 0 < 128) :
    Calls Try.prog 15 #[.slice A0 l0.length c0] w fun e w' => e = .returned (.tuple #[.int .i64 (nextL l0).1, .int .i64 (nextL l0).2.1, .int .i64 (nextL l0).2.2]) ∧ Below w.heap.size w w' := by
  have hlen : lenF (rd l0 0) = 1 := by unfold lenF; rw [if_pos h2]
  obtain ⟨R, hR⟩ : ∃ R, (l0.take 1).drop 1 = R := ⟨_, rfl⟩
  have hRl : R.length = 0 := by rw [← hR, List.length_drop, List.length_take]; omega
  have hRb : R.all byteB = true := by
    rw [List.all_eq_true] at hb ⊢
    intro x hx
    rw [← hR] at hx
    exact hb x (List.mem_of_mem_take (List.mem_of_mem_drop hx))
  obtain ⟨N, hN⟩ : ∃ N, nextL l0 = N := ⟨_, rfl⟩
  have hN2 : (match tailsF R (rd l0 0 - 0) with | none => (0, 0, 11) | some c => if scalB c = true ∧ 0 ≤ c then (c, (1 : Int), 0) else (0, 0, 11)) = N := by
    rw [← hN]; unfold nextL; rw [hlen, hR, if_neg (by rintro (h | h | h) <;> first | omega | (rw [h] at hn; simp at hn))]; rfl
  rw [hN]
  obtain ⟨b0, hb0⟩ : ∃ b0, rd l0 0 = b0 := ⟨_, rfl⟩
  rw [hb0] at hN2 h1 h2
  have HLEN : Aside0 (utf_length.f 2 b0 = some 1) := ⟨by rw [len_eq b0 0, ← hb0, hlen]; rfl⟩
  have HC1 := Aside0.mk (show ∀ w', Below w.heap.size w w' → Kd.C (Kd.int .u8) w' (if c0 = 1 then A0 else A0.map (·.add 1)) R.length R from fun w' hw => by
    have := Kd.C_mid (lo := 1) (hi := 1) (Kd.C_below hr0 hw) (by omega) hn hc0
    rw [hR] at this
    exact this)
  have H00 := Aside0.mk (show 0 < l0.length ∧ rd l0 0 = b0 from ⟨by omega, hb0⟩)
  obtain ⟨ad, e, _⟩ := Kd.at_int hr0 0 (by omega) (by omega)
  subst e
  have HBW := Aside0.mk (Below.refl w.heap.size w)
  have hx0 := cell0 hr0 HBW.out H00.out
  have HN := Aside0.mk hN2
  have HRL := Aside0.mk hRl
  have HRB := Aside0.mk hRb
  have HB0 := Aside0.mk (show 0 ≤ b0 ∧ b0 < 128 from ⟨h1, h2⟩)
  have HR0 := Aside0.mk hr0
  have g1 : ((l0.length : Int) == 0) = false := beq_eq_false_iff_ne.2 (by omega)
  have g2 : decide ((l0.length : Int) < 1) = false := decide_eq_false (by omega)
  have g3 : (1 ≤ l0.length) = True := eq_true hn
  have g4 : (l0.length ≤ c0) = True := eq_true hc0
  have g5 : (0 < l0.length) = True := eq_true (by omega)
  have g6 : (1 ≤ c0) = True := eq_true (by omega)
  have g6i : ((1 : Int) ≤ (c0 : Int)) = True := eq_true (by omega)
  have HWB : Aside0 (wrap64 b0 = b0) := ⟨by unfold wrap64; omega⟩
  have HWBI : Aside0 (IntKind.i64.wrap b0 = b0) := ⟨by rw [IntKind.wrap_i64]; omega⟩
  have HSUBI : Aside0 (IntKind.i64.wrap (b0 - 0) = b0 - 0) := ⟨by rw [IntKind.wrap_i64]; omega⟩
  have HSUB : Aside0 (wrap64 (b0 - 0) = b0 - 0) := ⟨by unfold wrap64; omega⟩
  have ix : ∀ w, (Instr.index 60 (.agg #[.int .i64 0, .int .i64 128, .int .i64 192, .int .i64 2048, .int .i64 224, .int .i64 65536, .int .i64 240, .int .i64 1114112]) (.int .i64 (wrap64 0))).run Try.prog w = .ok (.agg #[.int .i64 0, .int .i64 128]) w := fun _ => by kernel_rfl
  have fx : ∀ w, (Instr.field 59 (.agg #[.int .i64 0, .int .i64 128]) 0).run Try.prog w = .ok (.int .i64 0) w := fun _ => by kernel_rfl
  have hu59 := Try.underlying59
  have hu60 := Try.underlying60
  clear hr0 hc0 hb hl hn h1 h2 hlen hR hRl hRb hN hb0 hN2
  go_enter Try.func15, Try.ntmps15
  go_wp2_with (go_at_call 31; refine (utf_length.calls 2 b0 1 _ HLEN.out).mono ?_; rintro e w1 ⟨rfl, ⟨nd, hw1⟩⟩; have HB1 : Aside0 (Below w.heap.size w w1) := ⟨by rw [hw1]; exact pw_below_drewN HBW.out nd⟩; clear HBW hx0 hw1; have HBW := HB1; clear HB1; have hx0 := cell0 HR0.out HBW.out H00.out)
  have HBD : Aside0 (Below w.heap.size w w1.drew) := ⟨below_drew1 HBW.out⟩
  refine start_ (n := 11) (S := fun w' => w'.cell? ad = some (.int .u8 b0)) (ds := []) #[false, false, false, false, false, false, false, false, false, false, false] (by kernel_rfl) rfl rfl (cell0 HR0.out (below_drew1 HBW.out) H00.out) (fun hHeld => ?_)
  generalize w1.drew = w10 at HBD hHeld ⊢
  refine pure_ (i := 0) (N := some 32) (v := ?_) (a' := ?_) #[true, false, false, false, false, false, false, false, false, false, false] rfl rfl (by kernel_rfl) (fun _ _ _ h => h) (Or.inl ⟨by rfl, ?_⟩) ?_ ?_
  rotate_left
  · intro w'
    go_simp
    with_reducible rfl
  rotate_left
  · simp only [Act.put, List.setIfInBounds_toArray, List.set_cons_zero, List.set_cons_succ, i64_w, i32_w]
    rfl
  refine pure_ (i := 1) (N := some 33) (v := ?_) (a' := ?_) #[true, true, false, false, false, false, false, false, false, false, false] rfl rfl (by kernel_rfl) (fun _ _ _ h => h) (Or.inl ⟨by rfl, ?_⟩) ?_ ?_
  rotate_left
  · intro w'
    go_simp
    with_reducible rfl
  rotate_left
  · simp only [Act.put, List.setIfInBounds_toArray, List.set_cons_zero, List.set_cons_succ, i64_w, i32_w]
    rfl
  refine take_ (i := 2) (N := some 34) (v := ?_) (a' := ?_) #[true, true, true, false, false, false, false, false, false, false, false] rfl rfl (by kernel_rfl) (fun _ _ _ h => h) (Or.inl ⟨by rfl, ?_⟩) hHeld ?_ ?_
  rotate_left
  · rintro w' s0
    go_simp
    with_reducible rfl
  rotate_left
  · simp only [Act.put, List.setIfInBounds_toArray, List.set_cons_zero, List.set_cons_succ, i64_w, i32_w]
    rfl
  refine pure_ (i := 3) (N := some 35) (v := ?_) (a' := ?_) #[true, true, true, true, false, false, false, false, false, false, false] rfl rfl (by kernel_rfl) (fun _ _ _ h => h) (Or.inl ⟨by rfl, ?_⟩) ?_ ?_
  rotate_left
  · intro w'
    go_simp
    rw [HWBI.out]
    try with_reducible rfl
  rotate_left
  · simp only [Act.put, List.setIfInBounds_toArray, List.set_cons_zero, List.set_cons_succ, i64_w, i32_w]
    rfl
  refine pure_ (i := 5) (N := some 37) (v := ?_) (a' := ?_) #[true, true, true, true, false, true, false, false, false, false, false] rfl rfl (by kernel_rfl) (fun _ _ _ h => h) (Or.inl ⟨by rfl, ?_⟩) ?_ ?_
  rotate_left
  · intro w'
    go_simp
    with_reducible rfl
  rotate_left
  · simp only [Act.put, List.setIfInBounds_toArray, List.set_cons_zero, List.set_cons_succ, i64_w, i32_w]
    rfl
  refine pure_ (i := 6) (N := some 38) (v := ?_) (a' := ?_) #[true, true, true, true, false, true, true, false, false, false, false] rfl rfl (by kernel_rfl) (fun _ _ _ h => h) (Or.inl ⟨by rfl, ?_⟩) ?_ ?_
  rotate_left
  · intro w'
    go_simp
    with_reducible rfl
  rotate_left
  · simp only [Act.put, List.setIfInBounds_toArray, List.set_cons_zero, List.set_cons_succ, i64_w, i32_w]
    rfl
  refine one_ (i := 4) (N := some 36) #[true, true, true, true, true, true, true, false, false, false, false] rfl rfl (by kernel_rfl) (by decide) (fun K hK => ?_)
  refine goes_ Try.func32 (by kernel_rfl) rfl #[] (by rfl) rfl rfl (by simp) ?_
  refine (utf_forms.calls _ _ _ _ _ _ _ _ _ rfl).mono ?_
  rintro e w2 ⟨rfl, hb2⟩
  refine ⟨_, rfl, ?_⟩
  have HB1 := Aside0.mk (HBD.out.trans (hb2.mono HBD.out.size))
  clear HBW hx0 hb2
  have HBW := HB1
  clear HB1
  have hx0 := cell0 HR0.out HBW.out H00.out
  refine hK.out _ _ hx0 (fun hHeld2 => ?_)
  clear hK K
  simp only [Act.put, List.getElem_toArray, List.getElem_cons_succ, List.getElem_cons_zero, List.setIfInBounds_toArray, List.set_cons_zero, List.set_cons_succ]
  refine pure_ (i := 7) (N := some 39) (v := ?_) (a' := ?_) #[true, true, true, true, true, true, true, true, false, false, false] rfl rfl (by kernel_rfl) (fun _ _ _ h => h) (Or.inl ⟨by rfl, ?_⟩) ?_ ?_
  rotate_left
  · intro w'
    go_simp
    with_reducible rfl
  rotate_left
  · simp only [Act.put, List.setIfInBounds_toArray, List.set_cons_zero, List.set_cons_succ, i64_w, i32_w]
    rfl
  refine pure_ (i := 8) (N := some 40) (v := ?_) (a' := ?_) #[true, true, true, true, true, true, true, true, true, false, false] rfl rfl (by kernel_rfl) (fun _ _ _ h => h) (Or.inl ⟨by rfl, ?_⟩) ?_ ?_
  rotate_left
  · intro w'
    go_simp
    with_reducible rfl
  rotate_left
  · simp only [Act.put, List.setIfInBounds_toArray, List.set_cons_zero, List.set_cons_succ, i64_w, i32_w]
    rfl
  refine pure_ (i := 9) (N := some 41) (v := ?_) (a' := ?_) #[true, true, true, true, true, true, true, true, true, true, false] rfl rfl (by kernel_rfl) (fun _ _ _ h => h) (Or.inl ⟨by rfl, ?_⟩) ?_ ?_
  rotate_left
  · intro w'
    go_simp
    first | rw [HSUB.out] | rw [HSUBI.out] | rw [HWB.out] | rw [HWBI.out]
    try with_reducible rfl
  rotate_left
  · simp only [Act.put, List.setIfInBounds_toArray, List.set_cons_zero, List.set_cons_succ, i64_w, i32_w]
    rfl
  refine pure_ (i := 10) (N := some 6) (v := ?_) (a' := ?_) #[true, true, true, true, true, true, true, true, true, true, true] rfl rfl (by kernel_rfl) (fun _ _ _ h => h) (Or.inl ⟨by rfl, ?_⟩) ?_ ?_
  rotate_left
  · intro w'
    go_simp
    with_reducible rfl
  rotate_left
  · simp only [Act.put, List.setIfInBounds_toArray, List.set_cons_zero, List.set_cons_succ, i64_w, i32_w]
    rfl
  refine done_ (by kernel_rfl) ?_
  obtain ⟨TT, hTT⟩ : ∃ TT, tailsF R (b0 - 0) = TT := ⟨_, rfl⟩
  have hn1 := HN.out
  rw [hTT] at hn1
  have HN1 := Aside0.mk hn1
  have HTT := Aside0.mk hTT
  clear HN hn1 hTT
  by_cases g : c0 = 1
  · replace g := eq_true g
    go_wp2
    go_loopg [6, 46] 0 (fun kq v6 v46 w' => ∃ (j : Nat) (cc : Int), w' = w2 ∧ v46 = .int .i64 (j : Int) ∧ v6 = .int .i64 cc ∧ Aside0 (kq + j = 0) ∧ Aside0 (0 ≤ cc ∧ (j = 0 → cc ≤ 127)) ∧ Aside0 (tailsF (R.drop j) cc = TT))
    case atStart => exact ⟨0, _, rfl, rfl, rfl, ⟨rfl⟩, ⟨by have := HB0.out; omega⟩, ⟨by have := HTT.out; simpa using this⟩⟩
    case round =>
      obtain ⟨j, cc, rfl, rfl, rfl, HI, HCC, HX⟩ := hrel
      by_cases ci : (j : Int) < 0
      · exact absurd ci (by omega)
      · have cb : decide ((j : Int) < 0) = false := decide_eq_false ci
        have hx := HX.out
        rw [List.drop_eq_nil_of_le (by have := HRL.out; omega), tailsF] at hx
        subst hx
        have hn2 := HN1.out
        simp only [] at hn2
        have hcc := HCC.out
        cases hs : scalB cc with
        | false =>
          rw [if_neg (by rw [hs]; intro h; cases h.1)] at hn2
          have HS : Aside0 (utf_Scalar.f cc = some false) := ⟨by rw [scal_eq, hs]⟩
          subst hn2
          clear hs hcc HN1
          go_wp2_with (go_at_call 13; refine (utf_Scalar.calls cc false _ HS.out).mono ?_; rintro e w3 ⟨rfl, ⟨nd, rfl⟩⟩)
          go_ret3
          exact ⟨rfl, pw_below_drewN HBW.out _⟩
        | true =>
          have HS : Aside0 (utf_Scalar.f cc = some true) := ⟨by rw [scal_eq, hs]⟩
          rw [if_pos ⟨hs, by omega⟩] at hn2
          subst hn2
          clear hs hcc HN1
          go_wp2_with (go_at_call 13; refine (utf_Scalar.calls cc true _ HS.out).mono ?_; rintro e w3 ⟨rfl, ⟨nd, rfl⟩⟩)
          go_ret3
          exact ⟨rfl, pw_below_drewN HBW.out _⟩
  · replace g := eq_false g
    go_wp2
    go_loopg [6, 46] 0 (fun kq v6 v46 w' => ∃ (j : Nat) (cc : Int), w' = w2 ∧ v46 = .int .i64 (j : Int) ∧ v6 = .int .i64 cc ∧ Aside0 (kq + j = 0) ∧ Aside0 (0 ≤ cc ∧ (j = 0 → cc ≤ 127)) ∧ Aside0 (tailsF (R.drop j) cc = TT))
    case atStart => exact ⟨0, _, rfl, rfl, rfl, ⟨rfl⟩, ⟨by have := HB0.out; omega⟩, ⟨by have := HTT.out; simpa using this⟩⟩
    case round =>
      obtain ⟨j, cc, rfl, rfl, rfl, HI, HCC, HX⟩ := hrel
      by_cases ci : (j : Int) < 0
      · exact absurd ci (by omega)
      · have cb : decide ((j : Int) < 0) = false := decide_eq_false ci
        have hx := HX.out
        rw [List.drop_eq_nil_of_le (by have := HRL.out; omega), tailsF] at hx
        subst hx
        have hn2 := HN1.out
        simp only [] at hn2
        have hcc := HCC.out
        cases hs : scalB cc with
        | false =>
          rw [if_neg (by rw [hs]; intro h; cases h.1)] at hn2
          have HS : Aside0 (utf_Scalar.f cc = some false) := ⟨by rw [scal_eq, hs]⟩
          subst hn2
          clear hs hcc HN1
          go_wp2_with (go_at_call 13; refine (utf_Scalar.calls cc false _ HS.out).mono ?_; rintro e w3 ⟨rfl, ⟨nd, rfl⟩⟩)
          go_ret3
          exact ⟨rfl, pw_below_drewN HBW.out _⟩
        | true =>
          have HS : Aside0 (utf_Scalar.f cc = some true) := ⟨by rw [scal_eq, hs]⟩
          rw [if_pos ⟨hs, by omega⟩] at hn2
          subst hn2
          clear hs hcc HN1
          go_wp2_with (go_at_call 13; refine (utf_Scalar.calls cc true _ HS.out).mono ?_; rintro e w3 ⟨rfl, ⟨nd, rfl⟩⟩)
          go_ret3
          exact ⟨rfl, pw_below_drewN HBW.out _⟩
set_option maxHeartbeats 4000000 in
set_option maxRecDepth 100000 in
theorem next2 (A0 : Option Addr) (c0 : Nat) (l0 : List Int) (w : World) (hr0 : Kd.C (Kd.int .u8) w A0 l0.length l0) (hc0 : l0.length ≤ c0) (hb : l0.all byteB = true) (hl : l0.length < 9223372036854775807) (hn : 2 ≤ l0.length) (h1 : 192 ≤ rd l0 0) (h2 : rd l0 0 < 224) :
    Calls Try.prog 15 #[.slice A0 l0.length c0] w fun e w' => e = .returned (.tuple #[.int .i64 (nextL l0).1, .int .i64 (nextL l0).2.1, .int .i64 (nextL l0).2.2]) ∧ Below w.heap.size w w' := by
  have hlen : lenF (rd l0 0) = 2 := by unfold lenF; rw [if_neg (by omega), if_pos ⟨h1, h2⟩]
  obtain ⟨R, hR⟩ : ∃ R, (l0.take 2).drop 1 = R := ⟨_, rfl⟩
  have hRl : R.length = 1 := by rw [← hR, List.length_drop, List.length_take]; omega
  have hRb : R.all byteB = true := by
    rw [List.all_eq_true] at hb ⊢
    intro x hx
    rw [← hR] at hx
    exact hb x (List.mem_of_mem_take (List.mem_of_mem_drop hx))
  obtain ⟨N, hN⟩ : ∃ N, nextL l0 = N := ⟨_, rfl⟩
  have hN2 : (match tailsF R (rd l0 0 - 192) with | none => (0, 0, 11) | some c => if scalB c = true ∧ 128 ≤ c then (c, (2 : Int), 0) else (0, 0, 11)) = N := by
    rw [← hN]; unfold nextL; rw [hlen, hR, if_neg (by rintro (h | h | h) <;> first | omega | (rw [h] at hn; simp at hn))]; rfl
  rw [hN]
  obtain ⟨b0, hb0⟩ : ∃ b0, rd l0 0 = b0 := ⟨_, rfl⟩
  rw [hb0] at hN2 h1 h2
  have HLEN : Aside0 (utf_length.f 2 b0 = some 2) := ⟨by rw [len_eq b0 0, ← hb0, hlen]; rfl⟩
  have HC1 := Aside0.mk (show ∀ w', Below w.heap.size w w' → Kd.C (Kd.int .u8) w' (if c0 = 1 then A0 else A0.map (·.add 1)) R.length R from fun w' hw => by
    have := Kd.C_mid (lo := 1) (hi := 2) (Kd.C_below hr0 hw) (by omega) hn hc0
    rw [hR] at this
    exact this)
  have H00 := Aside0.mk (show 0 < l0.length ∧ rd l0 0 = b0 from ⟨by omega, hb0⟩)
  obtain ⟨ad, e, _⟩ := Kd.at_int hr0 0 (by omega) (by omega)
  subst e
  have HBW := Aside0.mk (Below.refl w.heap.size w)
  have hx0 := cell0 hr0 HBW.out H00.out
  have HN := Aside0.mk hN2
  have HRL := Aside0.mk hRl
  have HRB := Aside0.mk hRb
  have HB0 := Aside0.mk (show 192 ≤ b0 ∧ b0 < 224 from ⟨h1, h2⟩)
  have HR0 := Aside0.mk hr0
  have g1 : ((l0.length : Int) == 0) = false := beq_eq_false_iff_ne.2 (by omega)
  have g2 : decide ((l0.length : Int) < 2) = false := decide_eq_false (by omega)
  have g3 : (2 ≤ l0.length) = True := eq_true hn
  have g4 : (l0.length ≤ c0) = True := eq_true hc0
  have g5 : (0 < l0.length) = True := eq_true (by omega)
  have g6 : (2 ≤ c0) = True := eq_true (by omega)
  have g6i : ((2 : Int) ≤ (c0 : Int)) = True := eq_true (by omega)
  have g7 : (c0 = 1) = False := eq_false (by omega)
  have HWB : Aside0 (wrap64 b0 = b0) := ⟨by unfold wrap64; omega⟩
  have HWBI : Aside0 (IntKind.i64.wrap b0 = b0) := ⟨by rw [IntKind.wrap_i64]; omega⟩
  have HSUBI : Aside0 (IntKind.i64.wrap (b0 - 192) = b0 - 192) := ⟨by rw [IntKind.wrap_i64]; omega⟩
  have HSUB : Aside0 (wrap64 (b0 - 192) = b0 - 192) := ⟨by unfold wrap64; omega⟩
  have ix : ∀ w, (Instr.index 60 (.agg #[.int .i64 0, .int .i64 128, .int .i64 192, .int .i64 2048, .int .i64 224, .int .i64 65536, .int .i64 240, .int .i64 1114112]) (.int .i64 (wrap64 1))).run Try.prog w = .ok (.agg #[.int .i64 192, .int .i64 2048]) w := fun _ => by kernel_rfl
  have fx : ∀ w, (Instr.field 59 (.agg #[.int .i64 192, .int .i64 2048]) 0).run Try.prog w = .ok (.int .i64 192) w := fun _ => by kernel_rfl
  have iy : ∀ w, (Instr.index 60 (.agg #[.int .i64 0, .int .i64 128, .int .i64 192, .int .i64 2048, .int .i64 224, .int .i64 65536, .int .i64 240, .int .i64 1114112]) (.int .i64 (wrap64 0))).run Try.prog w = .ok (.agg #[.int .i64 0, .int .i64 128]) w := fun _ => by kernel_rfl
  have iy0 : ∀ w, (Instr.index 60 (.agg #[.int .i64 0, .int .i64 128, .int .i64 192, .int .i64 2048, .int .i64 224, .int .i64 65536, .int .i64 240, .int .i64 1114112]) (.int .i64 0)).run Try.prog w = .ok (.agg #[.int .i64 0, .int .i64 128]) w := fun _ => by kernel_rfl
  have fy : ∀ w, (Instr.field 59 (.agg #[.int .i64 0, .int .i64 128]) 1).run Try.prog w = .ok (.int .i64 128) w := fun _ => by kernel_rfl
  have hu59 := Try.underlying59
  have hu60 := Try.underlying60
  clear hr0 hc0 hb hl hn h1 h2 hlen hR hRl hRb hN hb0 hN2
  go_enter Try.func15, Try.ntmps15
  go_wp2_with (go_at_call 31; refine (utf_length.calls 2 b0 2 _ HLEN.out).mono ?_; rintro e w1 ⟨rfl, ⟨nd, hw1⟩⟩; have HB1 : Aside0 (Below w.heap.size w w1) := ⟨by rw [hw1]; exact pw_below_drewN HBW.out nd⟩; clear HBW hx0 hw1; have HBW := HB1; clear HB1; have hx0 := cell0 HR0.out HBW.out H00.out)
  have HBD : Aside0 (Below w.heap.size w w1.drew) := ⟨below_drew1 HBW.out⟩
  refine start_ (n := 11) (S := fun w' => w'.cell? ad = some (.int .u8 b0)) (ds := []) #[false, false, false, false, false, false, false, false, false, false, false] (by kernel_rfl) rfl rfl (cell0 HR0.out (below_drew1 HBW.out) H00.out) (fun hHeld => ?_)
  generalize w1.drew = w10 at HBD hHeld ⊢
  refine pure_ (i := 0) (N := some 32) (v := ?_) (a' := ?_) #[true, false, false, false, false, false, false, false, false, false, false] rfl rfl (by kernel_rfl) (fun _ _ _ h => h) (Or.inl ⟨by rfl, ?_⟩) ?_ ?_
  rotate_left
  · intro w'
    go_simp
    with_reducible rfl
  rotate_left
  · simp only [Act.put, List.setIfInBounds_toArray, List.set_cons_zero, List.set_cons_succ, i64_w, i32_w]
    rfl
  refine pure_ (i := 1) (N := some 33) (v := ?_) (a' := ?_) #[true, true, false, false, false, false, false, false, false, false, false] rfl rfl (by kernel_rfl) (fun _ _ _ h => h) (Or.inl ⟨by rfl, ?_⟩) ?_ ?_
  rotate_left
  · intro w'
    go_simp
    with_reducible rfl
  rotate_left
  · simp only [Act.put, List.setIfInBounds_toArray, List.set_cons_zero, List.set_cons_succ, i64_w, i32_w]
    rfl
  refine take_ (i := 2) (N := some 34) (v := ?_) (a' := ?_) #[true, true, true, false, false, false, false, false, false, false, false] rfl rfl (by kernel_rfl) (fun _ _ _ h => h) (Or.inl ⟨by rfl, ?_⟩) hHeld ?_ ?_
  rotate_left
  · rintro w' s0
    go_simp
    with_reducible rfl
  rotate_left
  · simp only [Act.put, List.setIfInBounds_toArray, List.set_cons_zero, List.set_cons_succ, i64_w, i32_w]
    rfl
  refine pure_ (i := 3) (N := some 35) (v := ?_) (a' := ?_) #[true, true, true, true, false, false, false, false, false, false, false] rfl rfl (by kernel_rfl) (fun _ _ _ h => h) (Or.inl ⟨by rfl, ?_⟩) ?_ ?_
  rotate_left
  · intro w'
    go_simp
    rw [HWBI.out]
    try with_reducible rfl
  rotate_left
  · simp only [Act.put, List.setIfInBounds_toArray, List.set_cons_zero, List.set_cons_succ, i64_w, i32_w]
    rfl
  refine pure_ (i := 5) (N := some 37) (v := ?_) (a' := ?_) #[true, true, true, true, false, true, false, false, false, false, false] rfl rfl (by kernel_rfl) (fun _ _ _ h => h) (Or.inl ⟨by rfl, ?_⟩) ?_ ?_
  rotate_left
  · intro w'
    go_simp
    with_reducible rfl
  rotate_left
  · simp only [Act.put, List.setIfInBounds_toArray, List.set_cons_zero, List.set_cons_succ, i64_w, i32_w]
    rfl
  refine pure_ (i := 6) (N := some 38) (v := ?_) (a' := ?_) #[true, true, true, true, false, true, true, false, false, false, false] rfl rfl (by kernel_rfl) (fun _ _ _ h => h) (Or.inl ⟨by rfl, ?_⟩) ?_ ?_
  rotate_left
  · intro w'
    go_simp
    with_reducible rfl
  rotate_left
  · simp only [Act.put, List.setIfInBounds_toArray, List.set_cons_zero, List.set_cons_succ, i64_w, i32_w]
    rfl
  refine one_ (i := 4) (N := some 36) #[true, true, true, true, true, true, true, false, false, false, false] rfl rfl (by kernel_rfl) (by decide) (fun K hK => ?_)
  refine goes_ Try.func32 (by kernel_rfl) rfl #[] (by rfl) rfl rfl (by simp) ?_
  refine (utf_forms.calls _ _ _ _ _ _ _ _ _ rfl).mono ?_
  rintro e w2 ⟨rfl, hb2⟩
  refine ⟨_, rfl, ?_⟩
  have HB1 := Aside0.mk (HBD.out.trans (hb2.mono HBD.out.size))
  clear HBW hx0 hb2
  have HBW := HB1
  clear HB1
  have hx0 := cell0 HR0.out HBW.out H00.out
  refine hK.out _ _ hx0 (fun hHeld2 => ?_)
  clear hK K
  simp only [Act.put, List.getElem_toArray, List.getElem_cons_succ, List.getElem_cons_zero, List.setIfInBounds_toArray, List.set_cons_zero, List.set_cons_succ]
  refine pure_ (i := 7) (N := some 39) (v := ?_) (a' := ?_) #[true, true, true, true, true, true, true, true, false, false, false] rfl rfl (by kernel_rfl) (fun _ _ _ h => h) (Or.inl ⟨by rfl, ?_⟩) ?_ ?_
  rotate_left
  · intro w'
    go_simp
    with_reducible rfl
  rotate_left
  · simp only [Act.put, List.setIfInBounds_toArray, List.set_cons_zero, List.set_cons_succ, i64_w, i32_w]
    rfl
  refine pure_ (i := 8) (N := some 40) (v := ?_) (a' := ?_) #[true, true, true, true, true, true, true, true, true, false, false] rfl rfl (by kernel_rfl) (fun _ _ _ h => h) (Or.inl ⟨by rfl, ?_⟩) ?_ ?_
  rotate_left
  · intro w'
    go_simp
    with_reducible rfl
  rotate_left
  · simp only [Act.put, List.setIfInBounds_toArray, List.set_cons_zero, List.set_cons_succ, i64_w, i32_w]
    rfl
  refine pure_ (i := 9) (N := some 41) (v := ?_) (a' := ?_) #[true, true, true, true, true, true, true, true, true, true, false] rfl rfl (by kernel_rfl) (fun _ _ _ h => h) (Or.inl ⟨by rfl, ?_⟩) ?_ ?_
  rotate_left
  · intro w'
    go_simp
    first | rw [HSUB.out] | rw [HSUBI.out] | rw [HWB.out] | rw [HWBI.out]
    try with_reducible rfl
  rotate_left
  · simp only [Act.put, List.setIfInBounds_toArray, List.set_cons_zero, List.set_cons_succ, i64_w, i32_w]
    rfl
  refine pure_ (i := 10) (N := some 6) (v := ?_) (a' := ?_) #[true, true, true, true, true, true, true, true, true, true, true] rfl rfl (by kernel_rfl) (fun _ _ _ h => h) (Or.inl ⟨by rfl, ?_⟩) ?_ ?_
  rotate_left
  · intro w'
    go_simp
    with_reducible rfl
  rotate_left
  · simp only [Act.put, List.setIfInBounds_toArray, List.set_cons_zero, List.set_cons_succ, i64_w, i32_w]
    rfl
  refine done_ (by kernel_rfl) ?_
  obtain ⟨TT, hTT⟩ : ∃ TT, tailsF R (b0 - 192) = TT := ⟨_, rfl⟩
  have hn1 := HN.out
  rw [hTT] at hn1
  have HN1 := Aside0.mk hn1
  have HTT := Aside0.mk hTT
  clear HN hn1 hTT
  go_wp2
  go_loopg [6, 46] 1 (fun kq v6 v46 w' => ∃ (j : Nat) (cc : Int), w' = w2 ∧ v46 = .int .i64 (j : Int) ∧ v6 = .int .i64 cc ∧ Aside0 (kq + j = 1) ∧ Aside0 (0 ≤ cc ∧ (j = 0 → cc ≤ 31) ∧ (j = 1 → cc ≤ 2047)) ∧ Aside0 (tailsF (R.drop j) cc = TT))
  case atStart => exact ⟨0, _, rfl, rfl, rfl, ⟨rfl⟩, ⟨by have := HB0.out; omega⟩, ⟨by have := HTT.out; simpa using this⟩⟩
  case round =>
    obtain ⟨j, cc, rfl, rfl, rfl, HI, HCC, HX⟩ := hrel
    by_cases ci : (j : Int) < 1
    · have cb : decide ((j : Int) < 1) = true := decide_eq_true ci
      have hj : j < R.length := by have := HRL.out; omega
      have hc1 := HC1.out wr HBW.out
      rw [if_neg (by rw [g7]; exact id)] at hc1
      obtain ⟨ad2, e, hx1⟩ := Kd.at_int hc1 (j : Int) (by omega) (by omega)
      obtain rfl : ad.add 1 = ad2 := by injection e
      simp only [Int.toNat_natCast] at hx1
      have hxb := byte_at HRB.out j hj
      have hx := HX.out
      rw [List.drop_eq_getElem_cons hj, ← rd_nth R j hj, tailsF] at hx
      have hj0 : (0 : Int) ≤ (j : Int) := by omega
      have hjt : (j < 1) = True := eq_true (by omega)
      obtain ⟨x, hxx⟩ : ∃ x, rd R (j : Int) = x := ⟨_, rfl⟩
      rw [hxx] at hx hxb hx1
      rw [add1] at hx1
      have HXX := Aside0.mk hxb
      have HWX : Aside0 (wrap64 x = x) := ⟨by unfold wrap64; omega⟩
      have HWXI : Aside0 (IntKind.i64.wrap x = x) := ⟨by rw [IntKind.wrap_i64]; omega⟩
      have hcont := cont_eq x hxb.1 hxb.2
      by_cases cr : 128 ≤ x ∧ x < 192
      · rw [if_pos cr] at hx
        rw [decide_eq_true cr] at hcont
        have HX2 := Aside0.mk hx
        have HJ := Aside0.mk (join_eq cc x HCC.out.1 (by have := HCC.out; omega) hxb.1 hxb.2)
        have HW1 : Aside0 (wrap64 ((j : Int) + 1) = ((j + 1 : Nat) : Int)) := ⟨by unfold wrap64; omega⟩
        simp only [Bool.not_true] at hcont
        clear hx hxb cr hxx HX
        go_wp2_with (first | (rw [HWX.out]) | (rw [HWXI.out]))
        go_roundg (gk - 1)
        case measure => have := HI.out; omega
        case rel => exact ⟨j + 1, 64 * cc + x % 64, rfl, by first | rw [HW1.out] | simp, by first | rw [HJ.out] | simp [HJ.out], ⟨by have := HI.out; omega⟩, ⟨by have := HCC.out; have := HXX.out; omega⟩, HX2⟩
      · rw [if_neg cr] at hx
        rw [decide_eq_false cr] at hcont
        subst hx
        simp only [Bool.not_false] at hcont
        have hn2 := HN1.out
        simp only [] at hn2
        subst hn2
        clear hxb cr hxx HX HN1
        go_wp2_with (first | (rw [HWX.out]) | (rw [HWXI.out]))
        go_ret3
        exact ⟨rfl, HBW.out⟩
    · have cb : decide ((j : Int) < 1) = false := decide_eq_false ci
      have hx := HX.out
      rw [List.drop_eq_nil_of_le (by have := HRL.out; omega), tailsF] at hx
      subst hx
      have hn2 := HN1.out
      simp only [] at hn2
      have hcc := HCC.out
      cases hs : scalB cc with
      | false =>
        rw [if_neg (by rw [hs]; intro h; cases h.1)] at hn2
        have HS : Aside0 (utf_Scalar.f cc = some false) := ⟨by rw [scal_eq, hs]⟩
        subst hn2
        clear hs hcc HN1
        go_wp2_with (go_at_call 13; refine (utf_Scalar.calls cc false _ HS.out).mono ?_; rintro e w3 ⟨rfl, ⟨nd, rfl⟩⟩)
        go_ret3
        exact ⟨rfl, pw_below_drewN HBW.out _⟩
      | true =>
        have HS : Aside0 (utf_Scalar.f cc = some true) := ⟨by rw [scal_eq, hs]⟩
        by_cases cl : 128 ≤ cc
        · rw [if_pos ⟨hs, cl⟩] at hn2
          have clb : decide (cc < 128) = false := decide_eq_false (by omega)
          subst hn2
          clear hs hcc HN1 cl
          go_wp2_with (first | (go_at_call 13; refine (utf_Scalar.calls cc true _ HS.out).mono ?_; rintro e w3 ⟨rfl, ⟨nd, rfl⟩⟩) | (go_at_call 32; refine (utf_forms.calls _ _ _ _ _ _ _ _ _ rfl).mono ?_; rintro e w4 ⟨rfl, hb4⟩))
          go_ret3
          exact ⟨rfl, below_step (pw_below_drewN HBW.out _) hb4⟩
        · rw [if_neg (fun h => cl h.2)] at hn2
          have clb : decide (cc < 128) = true := decide_eq_true (by omega)
          subst hn2
          clear hs hcc HN1 cl
          go_wp2_with (first | (go_at_call 13; refine (utf_Scalar.calls cc true _ HS.out).mono ?_; rintro e w3 ⟨rfl, ⟨nd, rfl⟩⟩) | (go_at_call 32; refine (utf_forms.calls _ _ _ _ _ _ _ _ _ rfl).mono ?_; rintro e w4 ⟨rfl, hb4⟩))
          go_ret3
          exact ⟨rfl, below_step (pw_below_drewN HBW.out _) hb4⟩
set_option maxHeartbeats 4000000 in
set_option maxRecDepth 100000 in
theorem next3 (A0 : Option Addr) (c0 : Nat) (l0 : List Int) (w : World) (hr0 : Kd.C (Kd.int .u8) w A0 l0.length l0) (hc0 : l0.length ≤ c0) (hb : l0.all byteB = true) (hl : l0.length < 9223372036854775807) (hn : 3 ≤ l0.length) (h1 : 224 ≤ rd l0 0) (h2 : rd l0 0 < 240) :
    Calls Try.prog 15 #[.slice A0 l0.length c0] w fun e w' => e = .returned (.tuple #[.int .i64 (nextL l0).1, .int .i64 (nextL l0).2.1, .int .i64 (nextL l0).2.2]) ∧ Below w.heap.size w w' := by
  have hlen : lenF (rd l0 0) = 3 := by unfold lenF; rw [if_neg (by omega), if_neg (by omega), if_pos ⟨h1, h2⟩]
  obtain ⟨R, hR⟩ : ∃ R, (l0.take 3).drop 1 = R := ⟨_, rfl⟩
  have hRl : R.length = 2 := by rw [← hR, List.length_drop, List.length_take]; omega
  have hRb : R.all byteB = true := by
    rw [List.all_eq_true] at hb ⊢
    intro x hx
    rw [← hR] at hx
    exact hb x (List.mem_of_mem_take (List.mem_of_mem_drop hx))
  obtain ⟨N, hN⟩ : ∃ N, nextL l0 = N := ⟨_, rfl⟩
  have hN2 : (match tailsF R (rd l0 0 - 224) with | none => (0, 0, 11) | some c => if scalB c = true ∧ 2048 ≤ c then (c, (3 : Int), 0) else (0, 0, 11)) = N := by
    rw [← hN]; unfold nextL; rw [hlen, hR, if_neg (by rintro (h | h | h) <;> first | omega | (rw [h] at hn; simp at hn))]; rfl
  rw [hN]
  obtain ⟨b0, hb0⟩ : ∃ b0, rd l0 0 = b0 := ⟨_, rfl⟩
  rw [hb0] at hN2 h1 h2
  have HLEN : Aside0 (utf_length.f 2 b0 = some 3) := ⟨by rw [len_eq b0 0, ← hb0, hlen]; rfl⟩
  have HC1 := Aside0.mk (show ∀ w', Below w.heap.size w w' → Kd.C (Kd.int .u8) w' (if c0 = 1 then A0 else A0.map (·.add 1)) R.length R from fun w' hw => by
    have := Kd.C_mid (lo := 1) (hi := 3) (Kd.C_below hr0 hw) (by omega) hn hc0
    rw [hR] at this
    exact this)
  have H00 := Aside0.mk (show 0 < l0.length ∧ rd l0 0 = b0 from ⟨by omega, hb0⟩)
  obtain ⟨ad, e, _⟩ := Kd.at_int hr0 0 (by omega) (by omega)
  subst e
  have HBW := Aside0.mk (Below.refl w.heap.size w)
  have hx0 := cell0 hr0 HBW.out H00.out
  have HN := Aside0.mk hN2
  have HRL := Aside0.mk hRl
  have HRB := Aside0.mk hRb
  have HB0 := Aside0.mk (show 224 ≤ b0 ∧ b0 < 240 from ⟨h1, h2⟩)
  have HR0 := Aside0.mk hr0
  have g1 : ((l0.length : Int) == 0) = false := beq_eq_false_iff_ne.2 (by omega)
  have g2 : decide ((l0.length : Int) < 3) = false := decide_eq_false (by omega)
  have g3 : (3 ≤ l0.length) = True := eq_true hn
  have g4 : (l0.length ≤ c0) = True := eq_true hc0
  have g5 : (0 < l0.length) = True := eq_true (by omega)
  have g6 : (3 ≤ c0) = True := eq_true (by omega)
  have g6i : ((3 : Int) ≤ (c0 : Int)) = True := eq_true (by omega)
  have g7 : (c0 = 1) = False := eq_false (by omega)
  have HWB : Aside0 (wrap64 b0 = b0) := ⟨by unfold wrap64; omega⟩
  have HWBI : Aside0 (IntKind.i64.wrap b0 = b0) := ⟨by rw [IntKind.wrap_i64]; omega⟩
  have HSUBI : Aside0 (IntKind.i64.wrap (b0 - 224) = b0 - 224) := ⟨by rw [IntKind.wrap_i64]; omega⟩
  have HSUB : Aside0 (wrap64 (b0 - 224) = b0 - 224) := ⟨by unfold wrap64; omega⟩
  have ix : ∀ w, (Instr.index 60 (.agg #[.int .i64 0, .int .i64 128, .int .i64 192, .int .i64 2048, .int .i64 224, .int .i64 65536, .int .i64 240, .int .i64 1114112]) (.int .i64 (wrap64 2))).run Try.prog w = .ok (.agg #[.int .i64 224, .int .i64 65536]) w := fun _ => by kernel_rfl
  have fx : ∀ w, (Instr.field 59 (.agg #[.int .i64 224, .int .i64 65536]) 0).run Try.prog w = .ok (.int .i64 224) w := fun _ => by kernel_rfl
  have iy : ∀ w, (Instr.index 60 (.agg #[.int .i64 0, .int .i64 128, .int .i64 192, .int .i64 2048, .int .i64 224, .int .i64 65536, .int .i64 240, .int .i64 1114112]) (.int .i64 (wrap64 1))).run Try.prog w = .ok (.agg #[.int .i64 192, .int .i64 2048]) w := fun _ => by kernel_rfl
  have iy0 : ∀ w, (Instr.index 60 (.agg #[.int .i64 0, .int .i64 128, .int .i64 192, .int .i64 2048, .int .i64 224, .int .i64 65536, .int .i64 240, .int .i64 1114112]) (.int .i64 1)).run Try.prog w = .ok (.agg #[.int .i64 192, .int .i64 2048]) w := fun _ => by kernel_rfl
  have fy : ∀ w, (Instr.field 59 (.agg #[.int .i64 192, .int .i64 2048]) 1).run Try.prog w = .ok (.int .i64 2048) w := fun _ => by kernel_rfl
  have hu59 := Try.underlying59
  have hu60 := Try.underlying60
  clear hr0 hc0 hb hl hn h1 h2 hlen hR hRl hRb hN hb0 hN2
  go_enter Try.func15, Try.ntmps15
  go_wp2_with (go_at_call 31; refine (utf_length.calls 2 b0 3 _ HLEN.out).mono ?_; rintro e w1 ⟨rfl, ⟨nd, hw1⟩⟩; have HB1 : Aside0 (Below w.heap.size w w1) := ⟨by rw [hw1]; exact pw_below_drewN HBW.out nd⟩; clear HBW hx0 hw1; have HBW := HB1; clear HB1; have hx0 := cell0 HR0.out HBW.out H00.out)
  have HBD : Aside0 (Below w.heap.size w w1.drew) := ⟨below_drew1 HBW.out⟩
  refine start_ (n := 11) (S := fun w' => w'.cell? ad = some (.int .u8 b0)) (ds := []) #[false, false, false, false, false, false, false, false, false, false, false] (by kernel_rfl) rfl rfl (cell0 HR0.out (below_drew1 HBW.out) H00.out) (fun hHeld => ?_)
  generalize w1.drew = w10 at HBD hHeld ⊢
  refine pure_ (i := 0) (N := some 32) (v := ?_) (a' := ?_) #[true, false, false, false, false, false, false, false, false, false, false] rfl rfl (by kernel_rfl) (fun _ _ _ h => h) (Or.inl ⟨by rfl, ?_⟩) ?_ ?_
  rotate_left
  · intro w'
    go_simp
    with_reducible rfl
  rotate_left
  · simp only [Act.put, List.setIfInBounds_toArray, List.set_cons_zero, List.set_cons_succ, i64_w, i32_w]
    rfl
  refine pure_ (i := 1) (N := some 33) (v := ?_) (a' := ?_) #[true, true, false, false, false, false, false, false, false, false, false] rfl rfl (by kernel_rfl) (fun _ _ _ h => h) (Or.inl ⟨by rfl, ?_⟩) ?_ ?_
  rotate_left
  · intro w'
    go_simp
    with_reducible rfl
  rotate_left
  · simp only [Act.put, List.setIfInBounds_toArray, List.set_cons_zero, List.set_cons_succ, i64_w, i32_w]
    rfl
  refine take_ (i := 2) (N := some 34) (v := ?_) (a' := ?_) #[true, true, true, false, false, false, false, false, false, false, false] rfl rfl (by kernel_rfl) (fun _ _ _ h => h) (Or.inl ⟨by rfl, ?_⟩) hHeld ?_ ?_
  rotate_left
  · rintro w' s0
    go_simp
    with_reducible rfl
  rotate_left
  · simp only [Act.put, List.setIfInBounds_toArray, List.set_cons_zero, List.set_cons_succ, i64_w, i32_w]
    rfl
  refine pure_ (i := 3) (N := some 35) (v := ?_) (a' := ?_) #[true, true, true, true, false, false, false, false, false, false, false] rfl rfl (by kernel_rfl) (fun _ _ _ h => h) (Or.inl ⟨by rfl, ?_⟩) ?_ ?_
  rotate_left
  · intro w'
    go_simp
    rw [HWBI.out]
    try with_reducible rfl
  rotate_left
  · simp only [Act.put, List.setIfInBounds_toArray, List.set_cons_zero, List.set_cons_succ, i64_w, i32_w]
    rfl
  refine pure_ (i := 5) (N := some 37) (v := ?_) (a' := ?_) #[true, true, true, true, false, true, false, false, false, false, false] rfl rfl (by kernel_rfl) (fun _ _ _ h => h) (Or.inl ⟨by rfl, ?_⟩) ?_ ?_
  rotate_left
  · intro w'
    go_simp
    with_reducible rfl
  rotate_left
  · simp only [Act.put, List.setIfInBounds_toArray, List.set_cons_zero, List.set_cons_succ, i64_w, i32_w]
    rfl
  refine pure_ (i := 6) (N := some 38) (v := ?_) (a' := ?_) #[true, true, true, true, false, true, true, false, false, false, false] rfl rfl (by kernel_rfl) (fun _ _ _ h => h) (Or.inl ⟨by rfl, ?_⟩) ?_ ?_
  rotate_left
  · intro w'
    go_simp
    with_reducible rfl
  rotate_left
  · simp only [Act.put, List.setIfInBounds_toArray, List.set_cons_zero, List.set_cons_succ, i64_w, i32_w]
    rfl
  refine one_ (i := 4) (N := some 36) #[true, true, true, true, true, true, true, false, false, false, false] rfl rfl (by kernel_rfl) (by decide) (fun K hK => ?_)
  refine goes_ Try.func32 (by kernel_rfl) rfl #[] (by rfl) rfl rfl (by simp) ?_
  refine (utf_forms.calls _ _ _ _ _ _ _ _ _ rfl).mono ?_
  rintro e w2 ⟨rfl, hb2⟩
  refine ⟨_, rfl, ?_⟩
  have HB1 := Aside0.mk (HBD.out.trans (hb2.mono HBD.out.size))
  clear HBW hx0 hb2
  have HBW := HB1
  clear HB1
  have hx0 := cell0 HR0.out HBW.out H00.out
  refine hK.out _ _ hx0 (fun hHeld2 => ?_)
  clear hK K
  simp only [Act.put, List.getElem_toArray, List.getElem_cons_succ, List.getElem_cons_zero, List.setIfInBounds_toArray, List.set_cons_zero, List.set_cons_succ]
  refine pure_ (i := 7) (N := some 39) (v := ?_) (a' := ?_) #[true, true, true, true, true, true, true, true, false, false, false] rfl rfl (by kernel_rfl) (fun _ _ _ h => h) (Or.inl ⟨by rfl, ?_⟩) ?_ ?_
  rotate_left
  · intro w'
    go_simp
    with_reducible rfl
  rotate_left
  · simp only [Act.put, List.setIfInBounds_toArray, List.set_cons_zero, List.set_cons_succ, i64_w, i32_w]
    rfl
  refine pure_ (i := 8) (N := some 40) (v := ?_) (a' := ?_) #[true, true, true, true, true, true, true, true, true, false, false] rfl rfl (by kernel_rfl) (fun _ _ _ h => h) (Or.inl ⟨by rfl, ?_⟩) ?_ ?_
  rotate_left
  · intro w'
    go_simp
    with_reducible rfl
  rotate_left
  · simp only [Act.put, List.setIfInBounds_toArray, List.set_cons_zero, List.set_cons_succ, i64_w, i32_w]
    rfl
  refine pure_ (i := 9) (N := some 41) (v := ?_) (a' := ?_) #[true, true, true, true, true, true, true, true, true, true, false] rfl rfl (by kernel_rfl) (fun _ _ _ h => h) (Or.inl ⟨by rfl, ?_⟩) ?_ ?_
  rotate_left
  · intro w'
    go_simp
    first | rw [HSUB.out] | rw [HSUBI.out] | rw [HWB.out] | rw [HWBI.out]
    try with_reducible rfl
  rotate_left
  · simp only [Act.put, List.setIfInBounds_toArray, List.set_cons_zero, List.set_cons_succ, i64_w, i32_w]
    rfl
  refine pure_ (i := 10) (N := some 6) (v := ?_) (a' := ?_) #[true, true, true, true, true, true, true, true, true, true, true] rfl rfl (by kernel_rfl) (fun _ _ _ h => h) (Or.inl ⟨by rfl, ?_⟩) ?_ ?_
  rotate_left
  · intro w'
    go_simp
    with_reducible rfl
  rotate_left
  · simp only [Act.put, List.setIfInBounds_toArray, List.set_cons_zero, List.set_cons_succ, i64_w, i32_w]
    rfl
  refine done_ (by kernel_rfl) ?_
  obtain ⟨TT, hTT⟩ : ∃ TT, tailsF R (b0 - 224) = TT := ⟨_, rfl⟩
  have hn1 := HN.out
  rw [hTT] at hn1
  have HN1 := Aside0.mk hn1
  have HTT := Aside0.mk hTT
  clear HN hn1 hTT
  go_wp2
  go_loopg [6, 46] 2 (fun kq v6 v46 w' => ∃ (j : Nat) (cc : Int), w' = w2 ∧ v46 = .int .i64 (j : Int) ∧ v6 = .int .i64 cc ∧ Aside0 (kq + j = 2) ∧ Aside0 (0 ≤ cc ∧ (j = 0 → cc ≤ 15) ∧ (j = 1 → cc ≤ 1023) ∧ (j = 2 → cc ≤ 65535)) ∧ Aside0 (tailsF (R.drop j) cc = TT))
  case atStart => exact ⟨0, _, rfl, rfl, rfl, ⟨rfl⟩, ⟨by have := HB0.out; omega⟩, ⟨by have := HTT.out; simpa using this⟩⟩
  case round =>
    obtain ⟨j, cc, rfl, rfl, rfl, HI, HCC, HX⟩ := hrel
    by_cases ci : (j : Int) < 2
    · have cb : decide ((j : Int) < 2) = true := decide_eq_true ci
      have hj : j < R.length := by have := HRL.out; omega
      have hc1 := HC1.out wr HBW.out
      rw [if_neg (by rw [g7]; exact id)] at hc1
      obtain ⟨ad2, e, hx1⟩ := Kd.at_int hc1 (j : Int) (by omega) (by omega)
      obtain rfl : ad.add 1 = ad2 := by injection e
      simp only [Int.toNat_natCast] at hx1
      have hxb := byte_at HRB.out j hj
      have hx := HX.out
      rw [List.drop_eq_getElem_cons hj, ← rd_nth R j hj, tailsF] at hx
      have hj0 : (0 : Int) ≤ (j : Int) := by omega
      have hjt : (j < 2) = True := eq_true (by omega)
      obtain ⟨x, hxx⟩ : ∃ x, rd R (j : Int) = x := ⟨_, rfl⟩
      rw [hxx] at hx hxb hx1
      rw [add1] at hx1
      have HXX := Aside0.mk hxb
      have HWX : Aside0 (wrap64 x = x) := ⟨by unfold wrap64; omega⟩
      have HWXI : Aside0 (IntKind.i64.wrap x = x) := ⟨by rw [IntKind.wrap_i64]; omega⟩
      have hcont := cont_eq x hxb.1 hxb.2
      by_cases cr : 128 ≤ x ∧ x < 192
      · rw [if_pos cr] at hx
        rw [decide_eq_true cr] at hcont
        have HX2 := Aside0.mk hx
        have HJ := Aside0.mk (join_eq cc x HCC.out.1 (by have := HCC.out; omega) hxb.1 hxb.2)
        have HW1 : Aside0 (wrap64 ((j : Int) + 1) = ((j + 1 : Nat) : Int)) := ⟨by unfold wrap64; omega⟩
        simp only [Bool.not_true] at hcont
        clear hx hxb cr hxx HX
        go_wp2_with (first | (rw [HWX.out]) | (rw [HWXI.out]))
        go_roundg (gk - 1)
        case measure => have := HI.out; omega
        case rel => exact ⟨j + 1, 64 * cc + x % 64, rfl, by first | rw [HW1.out] | simp, by first | rw [HJ.out] | simp [HJ.out], ⟨by have := HI.out; omega⟩, ⟨by have := HCC.out; have := HXX.out; omega⟩, HX2⟩
      · rw [if_neg cr] at hx
        rw [decide_eq_false cr] at hcont
        subst hx
        simp only [Bool.not_false] at hcont
        have hn2 := HN1.out
        simp only [] at hn2
        subst hn2
        clear hxb cr hxx HX HN1
        go_wp2_with (first | (rw [HWX.out]) | (rw [HWXI.out]))
        go_ret3
        exact ⟨rfl, HBW.out⟩
    · have cb : decide ((j : Int) < 2) = false := decide_eq_false ci
      have hx := HX.out
      rw [List.drop_eq_nil_of_le (by have := HRL.out; omega), tailsF] at hx
      subst hx
      have hn2 := HN1.out
      simp only [] at hn2
      have hcc := HCC.out
      cases hs : scalB cc with
      | false =>
        rw [if_neg (by rw [hs]; intro h; cases h.1)] at hn2
        have HS : Aside0 (utf_Scalar.f cc = some false) := ⟨by rw [scal_eq, hs]⟩
        subst hn2
        clear hs hcc HN1
        go_wp2_with (go_at_call 13; refine (utf_Scalar.calls cc false _ HS.out).mono ?_; rintro e w3 ⟨rfl, ⟨nd, rfl⟩⟩)
        go_ret3
        exact ⟨rfl, pw_below_drewN HBW.out _⟩
      | true =>
        have HS : Aside0 (utf_Scalar.f cc = some true) := ⟨by rw [scal_eq, hs]⟩
        by_cases cl : 2048 ≤ cc
        · rw [if_pos ⟨hs, cl⟩] at hn2
          have clb : decide (cc < 2048) = false := decide_eq_false (by omega)
          subst hn2
          clear hs hcc HN1 cl
          go_wp2_with (first | (go_at_call 13; refine (utf_Scalar.calls cc true _ HS.out).mono ?_; rintro e w3 ⟨rfl, ⟨nd, rfl⟩⟩) | (go_at_call 32; refine (utf_forms.calls _ _ _ _ _ _ _ _ _ rfl).mono ?_; rintro e w4 ⟨rfl, hb4⟩))
          go_ret3
          exact ⟨rfl, below_step (pw_below_drewN HBW.out _) hb4⟩
        · rw [if_neg (fun h => cl h.2)] at hn2
          have clb : decide (cc < 2048) = true := decide_eq_true (by omega)
          subst hn2
          clear hs hcc HN1 cl
          go_wp2_with (first | (go_at_call 13; refine (utf_Scalar.calls cc true _ HS.out).mono ?_; rintro e w3 ⟨rfl, ⟨nd, rfl⟩⟩) | (go_at_call 32; refine (utf_forms.calls _ _ _ _ _ _ _ _ _ rfl).mono ?_; rintro e w4 ⟨rfl, hb4⟩))
          go_ret3
          exact ⟨rfl, below_step (pw_below_drewN HBW.out _) hb4⟩
set_option maxHeartbeats 4000000 in
set_option maxRecDepth 100000 in
theorem next4 (A0 : Option Addr) (c0 : Nat) (l0 : List Int) (w : World) (hr0 : Kd.C (Kd.int .u8) w A0 l0.length l0) (hc0 : l0.length ≤ c0) (hb : l0.all byteB = true) (hl : l0.length < 9223372036854775807) (hn : 4 ≤ l0.length) (h1 : 240 ≤ rd l0 0) (h2 : rd l0 0 < 248) :
    Calls Try.prog 15 #[.slice A0 l0.length c0] w fun e w' => e = .returned (.tuple #[.int .i64 (nextL l0).1, .int .i64 (nextL l0).2.1, .int .i64 (nextL l0).2.2]) ∧ Below w.heap.size w w' := by
  have hlen : lenF (rd l0 0) = 4 := by unfold lenF; rw [if_neg (by omega), if_neg (by omega), if_neg (by omega), if_pos ⟨h1, h2⟩]
  obtain ⟨R, hR⟩ : ∃ R, (l0.take 4).drop 1 = R := ⟨_, rfl⟩
  have hRl : R.length = 3 := by rw [← hR, List.length_drop, List.length_take]; omega
  have hRb : R.all byteB = true := by
    rw [List.all_eq_true] at hb ⊢
    intro x hx
    rw [← hR] at hx
    exact hb x (List.mem_of_mem_take (List.mem_of_mem_drop hx))
  obtain ⟨N, hN⟩ : ∃ N, nextL l0 = N := ⟨_, rfl⟩
  have hN2 : (match tailsF R (rd l0 0 - 240) with | none => (0, 0, 11) | some c => if scalB c = true ∧ 65536 ≤ c then (c, (4 : Int), 0) else (0, 0, 11)) = N := by
    rw [← hN]; unfold nextL; rw [hlen, hR, if_neg (by rintro (h | h | h) <;> first | omega | (rw [h] at hn; simp at hn))]; rfl
  rw [hN]
  obtain ⟨b0, hb0⟩ : ∃ b0, rd l0 0 = b0 := ⟨_, rfl⟩
  rw [hb0] at hN2 h1 h2
  have HLEN : Aside0 (utf_length.f 2 b0 = some 4) := ⟨by rw [len_eq b0 0, ← hb0, hlen]; rfl⟩
  have HC1 := Aside0.mk (show ∀ w', Below w.heap.size w w' → Kd.C (Kd.int .u8) w' (if c0 = 1 then A0 else A0.map (·.add 1)) R.length R from fun w' hw => by
    have := Kd.C_mid (lo := 1) (hi := 4) (Kd.C_below hr0 hw) (by omega) hn hc0
    rw [hR] at this
    exact this)
  have H00 := Aside0.mk (show 0 < l0.length ∧ rd l0 0 = b0 from ⟨by omega, hb0⟩)
  obtain ⟨ad, e, _⟩ := Kd.at_int hr0 0 (by omega) (by omega)
  subst e
  have HBW := Aside0.mk (Below.refl w.heap.size w)
  have hx0 := cell0 hr0 HBW.out H00.out
  have HN := Aside0.mk hN2
  have HRL := Aside0.mk hRl
  have HRB := Aside0.mk hRb
  have HB0 := Aside0.mk (show 240 ≤ b0 ∧ b0 < 248 from ⟨h1, h2⟩)
  have HR0 := Aside0.mk hr0
  have g1 : ((l0.length : Int) == 0) = false := beq_eq_false_iff_ne.2 (by omega)
  have g2 : decide ((l0.length : Int) < 4) = false := decide_eq_false (by omega)
  have g3 : (4 ≤ l0.length) = True := eq_true hn
  have g4 : (l0.length ≤ c0) = True := eq_true hc0
  have g5 : (0 < l0.length) = True := eq_true (by omega)
  have g6 : (4 ≤ c0) = True := eq_true (by omega)
  have g6i : ((4 : Int) ≤ (c0 : Int)) = True := eq_true (by omega)
  have g7 : (c0 = 1) = False := eq_false (by omega)
  have HWB : Aside0 (wrap64 b0 = b0) := ⟨by unfold wrap64; omega⟩
  have HWBI : Aside0 (IntKind.i64.wrap b0 = b0) := ⟨by rw [IntKind.wrap_i64]; omega⟩
  have HSUBI : Aside0 (IntKind.i64.wrap (b0 - 240) = b0 - 240) := ⟨by rw [IntKind.wrap_i64]; omega⟩
  have HSUB : Aside0 (wrap64 (b0 - 240) = b0 - 240) := ⟨by unfold wrap64; omega⟩
  have ix : ∀ w, (Instr.index 60 (.agg #[.int .i64 0, .int .i64 128, .int .i64 192, .int .i64 2048, .int .i64 224, .int .i64 65536, .int .i64 240, .int .i64 1114112]) (.int .i64 (wrap64 3))).run Try.prog w = .ok (.agg #[.int .i64 240, .int .i64 1114112]) w := fun _ => by kernel_rfl
  have fx : ∀ w, (Instr.field 59 (.agg #[.int .i64 240, .int .i64 1114112]) 0).run Try.prog w = .ok (.int .i64 240) w := fun _ => by kernel_rfl
  have iy : ∀ w, (Instr.index 60 (.agg #[.int .i64 0, .int .i64 128, .int .i64 192, .int .i64 2048, .int .i64 224, .int .i64 65536, .int .i64 240, .int .i64 1114112]) (.int .i64 (wrap64 2))).run Try.prog w = .ok (.agg #[.int .i64 224, .int .i64 65536]) w := fun _ => by kernel_rfl
  have iy0 : ∀ w, (Instr.index 60 (.agg #[.int .i64 0, .int .i64 128, .int .i64 192, .int .i64 2048, .int .i64 224, .int .i64 65536, .int .i64 240, .int .i64 1114112]) (.int .i64 2)).run Try.prog w = .ok (.agg #[.int .i64 224, .int .i64 65536]) w := fun _ => by kernel_rfl
  have fy : ∀ w, (Instr.field 59 (.agg #[.int .i64 224, .int .i64 65536]) 1).run Try.prog w = .ok (.int .i64 65536) w := fun _ => by kernel_rfl
  have hu59 := Try.underlying59
  have hu60 := Try.underlying60
  clear hr0 hc0 hb hl hn h1 h2 hlen hR hRl hRb hN hb0 hN2
  go_enter Try.func15, Try.ntmps15
  go_wp2_with (go_at_call 31; refine (utf_length.calls 2 b0 4 _ HLEN.out).mono ?_; rintro e w1 ⟨rfl, ⟨nd, hw1⟩⟩; have HB1 : Aside0 (Below w.heap.size w w1) := ⟨by rw [hw1]; exact pw_below_drewN HBW.out nd⟩; clear HBW hx0 hw1; have HBW := HB1; clear HB1; have hx0 := cell0 HR0.out HBW.out H00.out)
  have HBD : Aside0 (Below w.heap.size w w1.drew) := ⟨below_drew1 HBW.out⟩
  refine start_ (n := 11) (S := fun w' => w'.cell? ad = some (.int .u8 b0)) (ds := []) #[false, false, false, false, false, false, false, false, false, false, false] (by kernel_rfl) rfl rfl (cell0 HR0.out (below_drew1 HBW.out) H00.out) (fun hHeld => ?_)
  generalize w1.drew = w10 at HBD hHeld ⊢
  refine pure_ (i := 0) (N := some 32) (v := ?_) (a' := ?_) #[true, false, false, false, false, false, false, false, false, false, false] rfl rfl (by kernel_rfl) (fun _ _ _ h => h) (Or.inl ⟨by rfl, ?_⟩) ?_ ?_
  rotate_left
  · intro w'
    go_simp
    with_reducible rfl
  rotate_left
  · simp only [Act.put, List.setIfInBounds_toArray, List.set_cons_zero, List.set_cons_succ, i64_w, i32_w]
    rfl
  refine pure_ (i := 1) (N := some 33) (v := ?_) (a' := ?_) #[true, true, false, false, false, false, false, false, false, false, false] rfl rfl (by kernel_rfl) (fun _ _ _ h => h) (Or.inl ⟨by rfl, ?_⟩) ?_ ?_
  rotate_left
  · intro w'
    go_simp
    with_reducible rfl
  rotate_left
  · simp only [Act.put, List.setIfInBounds_toArray, List.set_cons_zero, List.set_cons_succ, i64_w, i32_w]
    rfl
  refine take_ (i := 2) (N := some 34) (v := ?_) (a' := ?_) #[true, true, true, false, false, false, false, false, false, false, false] rfl rfl (by kernel_rfl) (fun _ _ _ h => h) (Or.inl ⟨by rfl, ?_⟩) hHeld ?_ ?_
  rotate_left
  · rintro w' s0
    go_simp
    with_reducible rfl
  rotate_left
  · simp only [Act.put, List.setIfInBounds_toArray, List.set_cons_zero, List.set_cons_succ, i64_w, i32_w]
    rfl
  refine pure_ (i := 3) (N := some 35) (v := ?_) (a' := ?_) #[true, true, true, true, false, false, false, false, false, false, false] rfl rfl (by kernel_rfl) (fun _ _ _ h => h) (Or.inl ⟨by rfl, ?_⟩) ?_ ?_
  rotate_left
  · intro w'
    go_simp
    rw [HWBI.out]
    try with_reducible rfl
  rotate_left
  · simp only [Act.put, List.setIfInBounds_toArray, List.set_cons_zero, List.set_cons_succ, i64_w, i32_w]
    rfl
  refine pure_ (i := 5) (N := some 37) (v := ?_) (a' := ?_) #[true, true, true, true, false, true, false, false, false, false, false] rfl rfl (by kernel_rfl) (fun _ _ _ h => h) (Or.inl ⟨by rfl, ?_⟩) ?_ ?_
  rotate_left
  · intro w'
    go_simp
    with_reducible rfl
  rotate_left
  · simp only [Act.put, List.setIfInBounds_toArray, List.set_cons_zero, List.set_cons_succ, i64_w, i32_w]
    rfl
  refine pure_ (i := 6) (N := some 38) (v := ?_) (a' := ?_) #[true, true, true, true, false, true, true, false, false, false, false] rfl rfl (by kernel_rfl) (fun _ _ _ h => h) (Or.inl ⟨by rfl, ?_⟩) ?_ ?_
  rotate_left
  · intro w'
    go_simp
    with_reducible rfl
  rotate_left
  · simp only [Act.put, List.setIfInBounds_toArray, List.set_cons_zero, List.set_cons_succ, i64_w, i32_w]
    rfl
  refine one_ (i := 4) (N := some 36) #[true, true, true, true, true, true, true, false, false, false, false] rfl rfl (by kernel_rfl) (by decide) (fun K hK => ?_)
  refine goes_ Try.func32 (by kernel_rfl) rfl #[] (by rfl) rfl rfl (by simp) ?_
  refine (utf_forms.calls _ _ _ _ _ _ _ _ _ rfl).mono ?_
  rintro e w2 ⟨rfl, hb2⟩
  refine ⟨_, rfl, ?_⟩
  have HB1 := Aside0.mk (HBD.out.trans (hb2.mono HBD.out.size))
  clear HBW hx0 hb2
  have HBW := HB1
  clear HB1
  have hx0 := cell0 HR0.out HBW.out H00.out
  refine hK.out _ _ hx0 (fun hHeld2 => ?_)
  clear hK K
  simp only [Act.put, List.getElem_toArray, List.getElem_cons_succ, List.getElem_cons_zero, List.setIfInBounds_toArray, List.set_cons_zero, List.set_cons_succ]
  refine pure_ (i := 7) (N := some 39) (v := ?_) (a' := ?_) #[true, true, true, true, true, true, true, true, false, false, false] rfl rfl (by kernel_rfl) (fun _ _ _ h => h) (Or.inl ⟨by rfl, ?_⟩) ?_ ?_
  rotate_left
  · intro w'
    go_simp
    with_reducible rfl
  rotate_left
  · simp only [Act.put, List.setIfInBounds_toArray, List.set_cons_zero, List.set_cons_succ, i64_w, i32_w]
    rfl
  refine pure_ (i := 8) (N := some 40) (v := ?_) (a' := ?_) #[true, true, true, true, true, true, true, true, true, false, false] rfl rfl (by kernel_rfl) (fun _ _ _ h => h) (Or.inl ⟨by rfl, ?_⟩) ?_ ?_
  rotate_left
  · intro w'
    go_simp
    with_reducible rfl
  rotate_left
  · simp only [Act.put, List.setIfInBounds_toArray, List.set_cons_zero, List.set_cons_succ, i64_w, i32_w]
    rfl
  refine pure_ (i := 9) (N := some 41) (v := ?_) (a' := ?_) #[true, true, true, true, true, true, true, true, true, true, false] rfl rfl (by kernel_rfl) (fun _ _ _ h => h) (Or.inl ⟨by rfl, ?_⟩) ?_ ?_
  rotate_left
  · intro w'
    go_simp
    first | rw [HSUB.out] | rw [HSUBI.out] | rw [HWB.out] | rw [HWBI.out]
    try with_reducible rfl
  rotate_left
  · simp only [Act.put, List.setIfInBounds_toArray, List.set_cons_zero, List.set_cons_succ, i64_w, i32_w]
    rfl
  refine pure_ (i := 10) (N := some 6) (v := ?_) (a' := ?_) #[true, true, true, true, true, true, true, true, true, true, true] rfl rfl (by kernel_rfl) (fun _ _ _ h => h) (Or.inl ⟨by rfl, ?_⟩) ?_ ?_
  rotate_left
  · intro w'
    go_simp
    with_reducible rfl
  rotate_left
  · simp only [Act.put, List.setIfInBounds_toArray, List.set_cons_zero, List.set_cons_succ, i64_w, i32_w]
    rfl
  refine done_ (by kernel_rfl) ?_
  obtain ⟨TT, hTT⟩ : ∃ TT, tailsF R (b0 - 240) = TT := ⟨_, rfl⟩
  have hn1 := HN.out
  rw [hTT] at hn1
  have HN1 := Aside0.mk hn1
  have HTT := Aside0.mk hTT
  clear HN hn1 hTT
  go_wp2
  go_loopg [6, 46] 3 (fun kq v6 v46 w' => ∃ (j : Nat) (cc : Int), w' = w2 ∧ v46 = .int .i64 (j : Int) ∧ v6 = .int .i64 cc ∧ Aside0 (kq + j = 3) ∧ Aside0 (0 ≤ cc ∧ (j = 0 → cc ≤ 7) ∧ (j = 1 → cc ≤ 511) ∧ (j = 2 → cc ≤ 32767) ∧ (j = 3 → cc ≤ 2097151)) ∧ Aside0 (tailsF (R.drop j) cc = TT))
  case atStart => exact ⟨0, _, rfl, rfl, rfl, ⟨rfl⟩, ⟨by have := HB0.out; omega⟩, ⟨by have := HTT.out; simpa using this⟩⟩
  case round =>
    obtain ⟨j, cc, rfl, rfl, rfl, HI, HCC, HX⟩ := hrel
    by_cases ci : (j : Int) < 3
    · have cb : decide ((j : Int) < 3) = true := decide_eq_true ci
      have hj : j < R.length := by have := HRL.out; omega
      have hc1 := HC1.out wr HBW.out
      rw [if_neg (by rw [g7]; exact id)] at hc1
      obtain ⟨ad2, e, hx1⟩ := Kd.at_int hc1 (j : Int) (by omega) (by omega)
      obtain rfl : ad.add 1 = ad2 := by injection e
      simp only [Int.toNat_natCast] at hx1
      have hxb := byte_at HRB.out j hj
      have hx := HX.out
      rw [List.drop_eq_getElem_cons hj, ← rd_nth R j hj, tailsF] at hx
      have hj0 : (0 : Int) ≤ (j : Int) := by omega
      have hjt : (j < 3) = True := eq_true (by omega)
      obtain ⟨x, hxx⟩ : ∃ x, rd R (j : Int) = x := ⟨_, rfl⟩
      rw [hxx] at hx hxb hx1
      rw [add1] at hx1
      have HXX := Aside0.mk hxb
      have HWX : Aside0 (wrap64 x = x) := ⟨by unfold wrap64; omega⟩
      have HWXI : Aside0 (IntKind.i64.wrap x = x) := ⟨by rw [IntKind.wrap_i64]; omega⟩
      have hcont := cont_eq x hxb.1 hxb.2
      by_cases cr : 128 ≤ x ∧ x < 192
      · rw [if_pos cr] at hx
        rw [decide_eq_true cr] at hcont
        have HX2 := Aside0.mk hx
        have HJ := Aside0.mk (join_eq cc x HCC.out.1 (by have := HCC.out; omega) hxb.1 hxb.2)
        have HW1 : Aside0 (wrap64 ((j : Int) + 1) = ((j + 1 : Nat) : Int)) := ⟨by unfold wrap64; omega⟩
        simp only [Bool.not_true] at hcont
        clear hx hxb cr hxx HX
        go_wp2_with (first | (rw [HWX.out]) | (rw [HWXI.out]))
        go_roundg (gk - 1)
        case measure => have := HI.out; omega
        case rel => exact ⟨j + 1, 64 * cc + x % 64, rfl, by first | rw [HW1.out] | simp, by first | rw [HJ.out] | simp [HJ.out], ⟨by have := HI.out; omega⟩, ⟨by have := HCC.out; have := HXX.out; omega⟩, HX2⟩
      · rw [if_neg cr] at hx
        rw [decide_eq_false cr] at hcont
        subst hx
        simp only [Bool.not_false] at hcont
        have hn2 := HN1.out
        simp only [] at hn2
        subst hn2
        clear hxb cr hxx HX HN1
        go_wp2_with (first | (rw [HWX.out]) | (rw [HWXI.out]))
        go_ret3
        exact ⟨rfl, HBW.out⟩
    · have cb : decide ((j : Int) < 3) = false := decide_eq_false ci
      have hx := HX.out
      rw [List.drop_eq_nil_of_le (by have := HRL.out; omega), tailsF] at hx
      subst hx
      have hn2 := HN1.out
      simp only [] at hn2
      have hcc := HCC.out
      cases hs : scalB cc with
      | false =>
        rw [if_neg (by rw [hs]; intro h; cases h.1)] at hn2
        have HS : Aside0 (utf_Scalar.f cc = some false) := ⟨by rw [scal_eq, hs]⟩
        subst hn2
        clear hs hcc HN1
        go_wp2_with (go_at_call 13; refine (utf_Scalar.calls cc false _ HS.out).mono ?_; rintro e w3 ⟨rfl, ⟨nd, rfl⟩⟩)
        go_ret3
        exact ⟨rfl, pw_below_drewN HBW.out _⟩
      | true =>
        have HS : Aside0 (utf_Scalar.f cc = some true) := ⟨by rw [scal_eq, hs]⟩
        by_cases cl : 65536 ≤ cc
        · rw [if_pos ⟨hs, cl⟩] at hn2
          have clb : decide (cc < 65536) = false := decide_eq_false (by omega)
          subst hn2
          clear hs hcc HN1 cl
          go_wp2_with (first | (go_at_call 13; refine (utf_Scalar.calls cc true _ HS.out).mono ?_; rintro e w3 ⟨rfl, ⟨nd, rfl⟩⟩) | (go_at_call 32; refine (utf_forms.calls _ _ _ _ _ _ _ _ _ rfl).mono ?_; rintro e w4 ⟨rfl, hb4⟩))
          go_ret3
          exact ⟨rfl, below_step (pw_below_drewN HBW.out _) hb4⟩
        · rw [if_neg (fun h => cl h.2)] at hn2
          have clb : decide (cc < 65536) = true := decide_eq_true (by omega)
          subst hn2
          clear hs hcc HN1 cl
          go_wp2_with (first | (go_at_call 13; refine (utf_Scalar.calls cc true _ HS.out).mono ?_; rintro e w3 ⟨rfl, ⟨nd, rfl⟩⟩) | (go_at_call 32; refine (utf_forms.calls _ _ _ _ _ _ _ _ _ rfl).mono ?_; rintro e w4 ⟨rfl, hb4⟩))
          go_ret3
          exact ⟨rfl, below_step (pw_below_drewN HBW.out _) hb4⟩
theorem next_no (A0 : Option Addr) (c0 : Nat) (l0 : List Int) (w : World) (hr0 : Kd.C (Kd.int .u8) w A0 l0.length l0) (hc0 : l0.length ≤ c0) (hn : lenF (rd l0 0) = 0 ∨ l0.length < lenF (rd l0 0) ∨ l0 = []) :
    Calls Try.prog 15 #[.slice A0 l0.length c0] w fun e w' => e = .returned (.tuple #[.int .i64 0, .int .i64 0, .int .i64 11]) ∧ Below w.heap.size w w' := by
  by_cases he : l0.length = 0
  · have g1 : ((l0.length : Int) == 0) = true := beq_iff_eq.2 (by omega)
    clear hn hr0
    go_enter Try.func15, Try.ntmps15
    go_wp2
    go_ret3
    exact ⟨rfl, Below.refl _ _⟩
  · obtain ⟨b0, hb0⟩ : ∃ b0, rd l0 0 = b0 := ⟨_, rfl⟩
    rw [hb0] at hn
    have HLEN : Aside0 (utf_length.f 2 b0 = some (lenF b0 : Int)) := ⟨len_eq b0 0⟩
    have H00 := Aside0.mk (show 0 < l0.length ∧ rd l0 0 = b0 from ⟨by omega, hb0⟩)
    have HR0 := Aside0.mk hr0
    obtain ⟨ad, e, _⟩ := Kd.at_int hr0 0 (by omega) (by omega)
    subst e
    have HBW := Aside0.mk (Below.refl w.heap.size w)
    have hx0 := cell0 hr0 HBW.out H00.out
    have g1 : ((l0.length : Int) == 0) = false := beq_eq_false_iff_ne.2 (by omega)
    have g5 : (0 < l0.length) = True := eq_true (by omega)
    by_cases h0 : lenF b0 = 0
    · have g2 : ((lenF b0 : Int) == 0) = true := beq_iff_eq.2 (by omega)
      clear hr0 hb0 hn he h0
      go_enter Try.func15, Try.ntmps15
      go_wp2_with (go_at_call 31; refine (utf_length.calls 2 b0 (lenF b0 : Int) _ HLEN.out).mono ?_; rintro e w1 ⟨rfl, ⟨nd, hw1⟩⟩; have HB1 : Aside0 (Below w.heap.size w w1) := ⟨by rw [hw1]; exact pw_below_drewN HBW.out nd⟩; clear HBW hx0 hw1; have HBW := HB1; clear HB1; have hx0 := cell0 HR0.out HBW.out H00.out)
      go_ret3
      exact ⟨rfl, HBW.out⟩
    · have g2 : ((lenF b0 : Int) == 0) = false := beq_eq_false_iff_ne.2 (by omega)
      have hl2 : l0.length < lenF b0 := by
        rcases hn with h | h | h
        · exact absurd h h0
        · exact h
        · rw [h] at he; exact absurd rfl he
      have g3 : decide ((l0.length : Int) < (lenF b0 : Int)) = true := decide_eq_true (by omega)
      have g4 := eq_true hl2
      clear hr0 hb0 hn he h0 hl2
      go_enter Try.func15, Try.ntmps15
      go_wp2_with (go_at_call 31; refine (utf_length.calls 2 b0 (lenF b0 : Int) _ HLEN.out).mono ?_; rintro e w1 ⟨rfl, ⟨nd, hw1⟩⟩; have HB1 : Aside0 (Below w.heap.size w w1) := ⟨by rw [hw1]; exact pw_below_drewN HBW.out nd⟩; clear HBW hx0 hw1; have HBW := HB1; clear HB1; have hx0 := cell0 HR0.out HBW.out H00.out)
      go_ret3
      exact ⟨rfl, HBW.out⟩
theorem utf_Next.calls (A0 : Option Addr) (c0 : Nat) (l0 : List Int) (r1 r2 r3 : Int) (w : World) (hr0 : Kd.C (Kd.int .u8) w A0 l0.length l0) (hc0 : l0.length ≤ c0) (h : utf_Next.f l0 = some (r1, r2, r3)) :
    Calls Try.prog 15 #[.slice A0 l0.length c0] w fun e w' => e = .returned (.tuple #[.int .i64 r1, .int .i64 r2, .int .i64 r3]) ∧ Below w.heap.size w w' := by
  unfold utf_Next.f at h
  by_cases hb : l0.all byteB = true ∧ l0.length < 9223372036854775807
  case neg => rw [if_neg hb] at h; cases h
  rw [if_pos hb] at h
  obtain ⟨hb, hl⟩ := hb
  have e := Option.some.inj h
  by_cases hn : lenF (rd l0 0) = 0 ∨ l0.length < lenF (rd l0 0) ∨ l0 = []
  · have e2 : nextL l0 = (0, 0, 11) := by unfold nextL; rw [if_pos hn]
    rw [e2] at e
    injection e with e3 e4
    injection e4 with e4 e5
    subst e3 e4 e5
    exact next_no A0 c0 l0 w hr0 hc0 hn
  · have hne : l0 ≠ [] := fun g => hn (.inr (.inr g))
    have hpos : 0 < l0.length := List.length_pos_iff.2 hne
    have hb0 := byte_at hb 0 hpos
    have h1 : rd l0 0 = rd l0 ((0 : Nat) : Int) := rfl
    have er1 : r1 = (nextL l0).1 := by rw [e]
    have er2 : r2 = (nextL l0).2.1 := by rw [e]
    have er3 : r3 = (nextL l0).2.2 := by rw [e]
    rw [er1, er2, er3]
    rw [← h1] at hb0
    have hln : lenF (rd l0 0) ≤ l0.length := by omega
    have hl0 : lenF (rd l0 0) ≠ 0 := fun g => hn (.inl g)
    clear hn e er1 er2 er3 h
    by_cases c1 : rd l0 0 < 128
    · exact next1 A0 c0 l0 w hr0 hc0 hb hl (by omega) hb0.1 c1
    · by_cases c2 : 192 ≤ rd l0 0 ∧ rd l0 0 < 224
      · exact next2 A0 c0 l0 w hr0 hc0 hb hl (by unfold lenF at hln; rw [if_neg c1, if_pos c2] at hln; exact hln) c2.1 c2.2
      · by_cases c3 : 224 ≤ rd l0 0 ∧ rd l0 0 < 240
        · exact next3 A0 c0 l0 w hr0 hc0 hb hl (by unfold lenF at hln; rw [if_neg c1, if_neg c2, if_pos c3] at hln; exact hln) c3.1 c3.2
        · by_cases c4 : 240 ≤ rd l0 0 ∧ rd l0 0 < 248
          · exact next4 A0 c0 l0 w hr0 hc0 hb hl (by unfold lenF at hln; rw [if_neg c1, if_neg c2, if_neg c3, if_pos c4] at hln; exact hln) c4.1 c4.2
          · exact absurd (by unfold lenF; rw [if_neg c1, if_neg c2, if_neg c3, if_neg c4]) hl0
end Go.Proofs.Ytijikaihmaganaa.P
