/- slices.Reverse of the end of a row of whole numbers: what stands ahead of it stays. -/
import Derived.Test.YtbkgggcpkiddmaaP0
import Derived.Shelf.Abstract
namespace Go.Proofs.Ytbkgggcpkiddmaa.P
open Go.RowKit Go.Shelf Go.Proofs.YtbkgggcpkiddmaaW.PrintWords Go.Proofs.YtbkgggcpkiddmaaW.PrintLast Go.Proofs.YtbkgggcpkiddmaaW.PrintMore
set_option linter.unusedVariables false
set_option linter.unusedSimpArgs false
/-- A row of the call's own. -/
abbrev Row (w : World) (n0 : Nat) (u : Value) (l : List Int) : Prop := Kd.R (Kd.int .i64) 3 w n0 (fun _ => True) u l
/-- All but the block g is kept. -/
structure KA (n₀ g : Nat) (A B : World) : Prop where
  bel : Below n₀ A B
  keep : ∀ k o, A.heap[k]? = some o → k ≠ g → B.heap[k]? = some o
theorem KA.refl (n₀ g : Nat) (W : World) : KA n₀ g W W := ⟨Below.refl _ _, fun _ _ h _ => h⟩
theorem KA.drewN {n₀ g : Nat} {A B : World} (h : KA n₀ g A B) (m : Nat) : KA n₀ g A (B.drewN m) := ⟨pw_below_drewN h.bel m, fun k o hk hg => blk_drewN (h.keep k o hk hg) m⟩
theorem KA.drew {n₀ g : Nat} {A B : World} (h : KA n₀ g A B) : KA n₀ g A B.drew := ⟨below_drew h.bel, fun k o hk hg => blk_drew (h.keep k o hk hg)⟩
theorem row_put {n₀ g n c : Nat} {W0 w : World} {l : List Int} {base : Nat} (h : Row w base (.slice (some ⟨g, 0, none⟩) n c) l) (hK : KA n₀ g W0 w) (hg : n₀ ≤ g) (i : Nat) (x : Int) :
    Row (w.setCell ⟨g, i, none⟩ (.int .i64 x)) base (.slice (some ⟨g, 0, none⟩) n c) (l.set i x) ∧ KA n₀ g W0 (w.setCell ⟨g, i, none⟩ (.int .i64 x)) := by
  have h1 := (Kd.R_putg h (i : Int) x).1
  rw [Int.toNat_natCast] at h1
  refine ⟨h1, hK.bel.setCell hg _, fun k o hk hne => ?_⟩
  rw [Below.heap_setCell w ⟨g, i, none⟩ _ k hne]
  exact hK.keep k o hk hne
theorem row_open {w : World} {n0 n c : Nat} {A : Option Addr} {l : List Int} (h : Row w n0 (.slice A n c) l) (hn : l.length = n) (h0 : 0 < n) : ∃ g, A = some ⟨g, 0, none⟩ ∧ n0 ≤ g := by
  obtain ⟨g, c', e, h1, h2⟩ := Kd.R_form h (by omega)
  injection e with ea en ec
  subst ea
  exact ⟨g, rfl, h1⟩
theorem row_at {w : World} {n0 n c g : Nat} {l : List Int} (h : Row w n0 (.slice (some ⟨g, 0, none⟩) n c) l) (i : Nat) (hi : i < n) : w.cell? ⟨g, i, none⟩ = some (.int .i64 (rd l (i : Int))) ∧ w.frozen? ⟨g, i, none⟩ = false := by
  have h2 := Kd.R_celln (d := 0) h (i : Int) (by omega) (by omega)
  rw [Int.toNat_natCast] at h2
  exact h2
theorem rd_set (l : List Int) (i k : Nat) (x : Int) (hi : i < l.length) : rd (l.set i x) (k : Int) = if k = i then x else rd l (k : Int) := by
  unfold rd
  simp only [List.getD_eq_getElem?_getD, Int.toNat_natCast, List.getElem?_set]
  by_cases h : i = k
  · subst h; simp [hi]
  · rw [if_neg h, if_neg (fun e => h e.symm)]
theorem ext_rd {a b : List Int} (h : a.length = b.length) (hk : ∀ k : Nat, k < a.length → rd a (k : Int) = rd b (k : Int)) : a = b := by
  apply List.ext_getElem h
  intro k h1 h2
  have := hk k h1
  unfold rd at this
  simpa [List.getD_eq_getElem?_getD, h1, h2] using this
/-- What stands at place k, i places being swapped at either end of the part from b on, of m places. -/
def revAt (o : List Int) (b m i k : Nat) : Int := if b ≤ k ∧ (k < b + i ∨ b + m ≤ k + i) then rd o ((2 * b + m - 1 - k : Nat) : Int) else rd o (k : Int)
def swp (o : List Int) (p q : Nat) : List Int := (o.set p (rd o (q : Int))).set q (rd o (p : Int))
theorem swp_len (o : List Int) (p q : Nat) : (swp o p q).length = o.length := by simp [swp]
theorem swp_rd (o : List Int) (p q k : Nat) (hp : p < o.length) (hq : q < o.length) : rd (swp o p q) (k : Int) = if k = q then rd o (p : Int) else if k = p then rd o (q : Int) else rd o (k : Int) := by
  unfold swp
  rw [rd_set _ _ _ _ (by simpa using hq), rd_set _ _ _ _ hp]
theorem rev_step (o x : List Int) (b m i : Nat) (hl : x.length = o.length) (hb : b + m = o.length) (hi : i < m - 1 - i) (h : ∀ k, k < o.length → rd x (k : Int) = revAt o b m i k) :
    ∀ k, k < o.length → rd (swp x (b + i) (b + (m - 1 - i))) (k : Int) = revAt o b m (i + 1) k := by
  intro k hk
  rw [swp_rd _ _ _ _ (by omega) (by omega), h _ (by omega), h _ (by omega), h k hk]
  unfold revAt
  by_cases h1 : k = b + (m - 1 - i)
  · rw [if_pos h1, if_neg (by omega), if_pos (by omega)]; congr 1; omega
  · rw [if_neg h1]
    by_cases h2 : k = b + i
    · rw [if_pos h2, if_neg (by omega), if_pos (by omega)]; congr 1; omega
    · rw [if_neg h2]
      by_cases h3 : b ≤ k ∧ (k < b + i ∨ b + m ≤ k + i)
      · rw [if_pos h3, if_pos (by omega)]
      · rw [if_neg h3, if_neg (by omega)]
theorem rev_end (o x : List Int) (b m i : Nat) (hl : x.length = o.length) (hb : b + m = o.length) (him : i ≤ m) (hi : m ≤ 2 * i + 1) (h : ∀ k, k < o.length → rd x (k : Int) = revAt o b m i k) : x = o.take b ++ (o.drop b).reverse := by
  apply List.ext_getElem (by simp; omega)
  intro k h1 h2
  have hk := h k (by omega)
  have e1 : rd x (k : Int) = x[k] := by unfold rd; simp [List.getD_eq_getElem?_getD, h1]
  rw [← e1, hk]
  unfold revAt
  have ro : ∀ j, (hj : j < o.length) → rd o (j : Int) = o[j] := fun j hj => by unfold rd; simp [List.getD_eq_getElem?_getD, hj]
  by_cases c : k < b
  · rw [if_neg (by omega), ro k (by omega), List.getElem_append_left (by simp; omega)]
    simp
  · rw [List.getElem_append_right (by simp; omega), List.getElem_reverse, List.getElem_drop]
    by_cases c2 : b ≤ k ∧ (k < b + i ∨ b + m ≤ k + i)
    · rw [if_pos c2, ro _ (by omega)]
      congr 1
      simp
      omega
    · rw [if_neg c2, ro k (by omega)]
      congr 1
      simp
      omega
def rev.T3 : Bool × List (List Nat × List Nat) := (true, [([], []), ([], []), ([], []), ([], []), ([], []), ([], []), ([4, 5], [4, 5]), ([6], [6]), ([], []), ([], []), ([8, 9], [8, 9]), ([10], [10]), ([0, 1, 0, 1, 4, 5, 6, 7, 11], [0, 1]), ([12, 7, 0, 1, 4, 5, 6, 7, 11], [7, 12]), ([2, 3, 0, 1, 2, 3, 4, 5, 6, 7, 8, 9, 10, 11, 12, 13], [2, 3]), ([14, 11, 13, 0, 1, 2, 3, 4, 5, 6, 7, 8, 9, 10, 11, 12, 13], [11, 14])])
def rev.B3 : List Nat := [0, 0, 0, 0, 0, 0, 48, 112, 0, 0, 768, 1792, 4083, 8179, 16383, 32767]
theorem rev.tab3 : rtab .any (opsOf Try.f20 3) = rev.T3 := by kernel_rfl
theorem rev.bits3 : waitsOk rev.T3.2 rev.B3 = true := by kernel_rfl
set_option maxHeartbeats 8000000 in
set_option maxRecDepth 100000 in
theorem rev_calls (W : World) (n0 base g b m c cc : Nat) (o : List Int) (hrow : Row W base (.slice (some ⟨g, 0, none⟩) o.length cc) o) (hbm : b + m = o.length) (hl : o.length < 1152921504606846976) (hg : n0 ≤ g) (hcc : m ≤ c) :
    Calls Try.prog 20 #[.slice (some ⟨g, b, none⟩) m c] W fun e w' => e = .returned (.tuple #[]) ∧ Row w' base (.slice (some ⟨g, 0, none⟩) o.length cc) (o.take b ++ (o.drop b).reverse) ∧ KA n0 g W w' := by
  have HROW := Aside0.mk hrow
  have HBM := Aside0.mk hbm
  have HL := Aside0.mk hl
  have HG := Aside0.mk hg
  have HC := Aside0.mk hcc
  have HW : Aside0 (wrap64 ((m : Int) - 1) = (m : Int) - 1) := ⟨by unfold wrap64; omega⟩
  clear hrow hbm hl hg hcc
  go_enter Try.func20, Try.ntmps20
  go_wp2
  go_loopg [2, 3] m (fun kq v2 v3 w' => ∃ (x : List Int) (i : Nat), v2 = .int .i64 (i : Int) ∧ v3 = .int .i64 ((m : Int) - 1 - (i : Int)) ∧ Aside0 (kq + i = m) ∧ Aside0 (m ≤ 2 * m ∧ 2 * i ≤ m + 1) ∧ Aside0 (x.length = o.length) ∧ Aside0 (∀ k, k < o.length → rd x (k : Int) = revAt o b m i k) ∧ Aside0 (Row w' base (.slice (some ⟨g, 0, none⟩) o.length cc) x) ∧ Aside0 (KA n0 g W w'))
  case atStart => exact ⟨o, 0, rfl, by rw [HW.out]; simp, ⟨rfl⟩, ⟨by omega⟩, ⟨rfl⟩, ⟨fun k hk => by have := HBM.out; unfold revAt; rw [if_neg (by omega)]⟩, HROW, ⟨KA.refl _ _ _⟩⟩
  case round =>
    obtain ⟨x, i, rfl, rfl, HI, HI2, HX, HR, HR2, HK⟩ := hrel
    by_cases ci : (i : Int) < (m : Int) - 1 - (i : Int)
    · obtain ⟨j, hj⟩ : ∃ j : Nat, j = m - 1 - i := ⟨_, rfl⟩
      have hj2 : (m : Int) - 1 - (i : Int) = (j : Int) := by omega
      rw [hj2] at ci ⊢
      have HJ := Aside0.mk hj
      have HJ2 := Aside0.mk hj2
      have hr2 := Kd.R_drew HR2.out
      have hk := HK.out.drew
      have r1 := row_at hr2 (b + i) (by have := HBM.out; omega)
      have r2 := row_at hr2 (b + j) (by have := HBM.out; omega)
      obtain ⟨vi, hvi⟩ : ∃ v, v = rd x ((b + i : Nat) : Int) := ⟨_, rfl⟩
      obtain ⟨vj, hvj⟩ : ∃ v, v = rd x ((b + j : Nat) : Int) := ⟨_, rfl⟩
      rw [← hvi] at r1
      rw [← hvj] at r2
      have HVI := Aside0.mk hvi
      have HVJ := Aside0.mk hvj
      have hp1 := row_put hr2 hk HG.out (b + i) vj
      have r3 := row_at hp1.1 (b + j) (by have := HBM.out; omega)
      have hp2 := row_put hp1.1 hp1.2 HG.out (b + j) vi
      have HP2 := Aside0.mk hp2
      have f1 := r1.2
      have f2 := r3.2
      have x1 := r1.1
      have x2 := r2.1
      have cj1 : decide ((i : Int) < (j : Int)) = true := decide_eq_true ci
      have q1 : (j < m) = True := eq_true (by omega)
      have q2 : (i < m) = True := eq_true (by omega)
      have hi0 : (0 : Int) ≤ (i : Int) := by omega
      have hj0 : (0 : Int) ≤ (j : Int) := by omega
      clear hp1 hp2 r1 r2 r3 hj hj2 hr2 hk hvi hvj
      try go_wp2
      refine start_ (n := 16) (S := fun w' => w'.cell? ⟨g, b + j, none⟩ = some (.int .i64 vj) ∧ w'.cell? ⟨g, b + i, none⟩ = some (.int .i64 vi)) (ds := [13, 15]) #[false, false, false, false, false, false, false, false, false, false, false, false, false, false, false, false] (by kernel_rfl) rfl rfl ⟨x2, x1⟩ (fun hHeld => ?_)
      refine with_tabW rev.tab3 rev.bits3 (fun HT_ HW_ => ?_)
      generalize wr.drew = w10 at HP2 f1 f2 x1 x2 hHeld ⊢
      refine pure_ (i := 0) (N := some 14) (v := ?_) (a' := ?_) #[true, false, false, false, false, false, false, false, false, false, false, false, false, false, false, false] rfl rfl (any_of HT_.out (by kernel_rfl)) (fun _ _ _ h => h) (Or.inl ⟨by rfl, ?_⟩) ?_ ?_
      rotate_left
      · intro w'
        go_simp
        with_reducible rfl
      rotate_left
      · simp only [Act.put, List.setIfInBounds_toArray, List.set_cons_zero, List.set_cons_succ, i64_w, i32_w]
        rfl
      refine pure_ (i := 1) (N := some 15) (v := ?_) (a' := ?_) #[true, true, false, false, false, false, false, false, false, false, false, false, false, false, false, false] rfl rfl (any_of HT_.out (by kernel_rfl)) (fun _ _ _ h => h) (Or.inl ⟨by rfl, ?_⟩) ?_ ?_
      rotate_left
      · intro w'
        go_simp
        with_reducible rfl
      rotate_left
      · simp only [Act.put, List.setIfInBounds_toArray, List.set_cons_zero, List.set_cons_succ, i64_w, i32_w]
        rfl
      refine pure_ (i := 2) (N := some 16) (v := ?_) (a' := ?_) #[true, true, true, false, false, false, false, false, false, false, false, false, false, false, false, false] rfl rfl (any_of HT_.out (by kernel_rfl)) (fun _ _ _ h => h) (Or.inl ⟨by rfl, ?_⟩) ?_ ?_
      rotate_left
      · intro w'
        go_simp
        with_reducible rfl
      rotate_left
      · simp only [Act.put, List.setIfInBounds_toArray, List.set_cons_zero, List.set_cons_succ, i64_w, i32_w]
        rfl
      refine pure_ (i := 3) (N := some 17) (v := ?_) (a' := ?_) #[true, true, true, true, false, false, false, false, false, false, false, false, false, false, false, false] rfl rfl (any_of HT_.out (by kernel_rfl)) (fun _ _ _ h => h) (Or.inl ⟨by rfl, ?_⟩) ?_ ?_
      rotate_left
      · intro w'
        go_simp
        with_reducible rfl
      rotate_left
      · simp only [Act.put, List.setIfInBounds_toArray, List.set_cons_zero, List.set_cons_succ, i64_w, i32_w]
        rfl
      refine pure_ (i := 4) (N := some 18) (v := ?_) (a' := ?_) #[true, true, true, true, true, false, false, false, false, false, false, false, false, false, false, false] rfl rfl (any_of HT_.out (by kernel_rfl)) (fun _ _ _ h => h) (Or.inl ⟨by rfl, ?_⟩) ?_ ?_
      rotate_left
      · intro w'
        go_simp
        with_reducible rfl
      rotate_left
      · simp only [Act.put, List.setIfInBounds_toArray, List.set_cons_zero, List.set_cons_succ, i64_w, i32_w]
        rfl
      refine pure_ (i := 5) (N := some 19) (v := ?_) (a' := ?_) #[true, true, true, true, true, true, false, false, false, false, false, false, false, false, false, false] rfl rfl (any_of HT_.out (by kernel_rfl)) (fun _ _ _ h => h) (Or.inl ⟨by rfl, ?_⟩) ?_ ?_
      rotate_left
      · intro w'
        go_simp
        with_reducible rfl
      rotate_left
      · simp only [Act.put, List.setIfInBounds_toArray, List.set_cons_zero, List.set_cons_succ, i64_w, i32_w]
        rfl
      refine pure_ (i := 6) (N := some 20) (v := ?_) (a' := ?_) #[true, true, true, true, true, true, true, false, false, false, false, false, false, false, false, false] rfl rfl (any_of HT_.out (by kernel_rfl)) (fun _ _ _ h => h) (Or.inl ⟨by rfl, ?_⟩) ?_ ?_
      rotate_left
      · intro w'
        go_simp
        with_reducible rfl
      rotate_left
      · simp only [Act.put, List.setIfInBounds_toArray, List.set_cons_zero, List.set_cons_succ, i64_w, i32_w]
        rfl
      refine pure_ (i := 8) (N := some 22) (v := ?_) (a' := ?_) #[true, true, true, true, true, true, true, false, true, false, false, false, false, false, false, false] rfl rfl (any_of HT_.out (by kernel_rfl)) (fun _ _ _ h => h) (Or.inl ⟨by rfl, ?_⟩) ?_ ?_
      rotate_left
      · intro w'
        go_simp
        with_reducible rfl
      rotate_left
      · simp only [Act.put, List.setIfInBounds_toArray, List.set_cons_zero, List.set_cons_succ, i64_w, i32_w]
        rfl
      refine pure_ (i := 9) (N := some 23) (v := ?_) (a' := ?_) #[true, true, true, true, true, true, true, false, true, true, false, false, false, false, false, false] rfl rfl (any_of HT_.out (by kernel_rfl)) (fun _ _ _ h => h) (Or.inl ⟨by rfl, ?_⟩) ?_ ?_
      rotate_left
      · intro w'
        go_simp
        with_reducible rfl
      rotate_left
      · simp only [Act.put, List.setIfInBounds_toArray, List.set_cons_zero, List.set_cons_succ, i64_w, i32_w]
        rfl
      refine pure_ (i := 10) (N := some 24) (v := ?_) (a' := ?_) #[true, true, true, true, true, true, true, false, true, true, true, false, false, false, false, false] rfl rfl (any_of HT_.out (by kernel_rfl)) (fun _ _ _ h => h) (Or.inl ⟨by rfl, ?_⟩) ?_ ?_
      rotate_left
      · intro w'
        go_simp
        with_reducible rfl
      rotate_left
      · simp only [Act.put, List.setIfInBounds_toArray, List.set_cons_zero, List.set_cons_succ, i64_w, i32_w]
        rfl
      refine take_ (i := 7) (N := some 21) (v := ?_) (a' := ?_) #[true, true, true, true, true, true, true, true, true, true, true, false, false, false, false, false] rfl rfl (take_ofW HT_.out HW_.out (by kernel_rfl)) (fun _ _ _ h => h) (Or.inl ⟨by rfl, ?_⟩) hHeld ?_ ?_
      rotate_left
      · rintro w' ⟨s0, s1⟩
        go_simp
        with_reducible rfl
      rotate_left
      · simp only [Act.put, List.setIfInBounds_toArray, List.set_cons_zero, List.set_cons_succ, i64_w, i32_w]
        rfl
      refine take_ (i := 11) (N := some 25) (v := ?_) (a' := ?_) #[true, true, true, true, true, true, true, true, true, true, true, true, false, false, false, false] rfl rfl (take_ofW HT_.out HW_.out (by kernel_rfl)) (fun _ _ _ h => h) (Or.inl ⟨by rfl, ?_⟩) hHeld ?_ ?_
      rotate_left
      · rintro w' ⟨s0, s1⟩
        go_simp
        with_reducible rfl
      rotate_left
      · simp only [Act.put, List.setIfInBounds_toArray, List.set_cons_zero, List.set_cons_succ, i64_w, i32_w]
        rfl
      refine pure_ (i := 12) (N := some 26) (v := ?_) (a' := ?_) #[true, true, true, true, true, true, true, true, true, true, true, true, true, false, false, false] rfl rfl (any_of HT_.out (by kernel_rfl)) (fun _ _ _ h => h) (Or.inl ⟨by rfl, ?_⟩) ?_ ?_
      rotate_left
      · intro w'
        go_simp
        with_reducible rfl
      rotate_left
      · simp only [Act.put, List.setIfInBounds_toArray, List.set_cons_zero, List.set_cons_succ, i64_w, i32_w]
        rfl
      refine last_ (i := 13) (N := none) #[true, true, true, true, true, true, true, true, true, true, true, true, true, true, false, false] rfl rfl (one_of HT_.out (by kernel_rfl)) (by decide) (fun K hK => ?_)
      refine skip_ (w1 := ?_) (by rfl) rfl ?_ ?_
      rotate_left
      · go_simp
        rfl
      refine hK.out _ _ ?_
      clear hK K
      refine pure_ (i := 14) (N := some 27) (v := ?_) (a' := ?_) #[true, true, true, true, true, true, true, true, true, true, true, true, true, true, true, false] rfl rfl (any_of HT_.out (by kernel_rfl)) (fun _ _ _ h => h) (Or.inl ⟨by rfl, ?_⟩) ?_ ?_
      rotate_left
      · intro w'
        go_simp
        with_reducible rfl
      rotate_left
      · simp only [Act.put, List.setIfInBounds_toArray, List.set_cons_zero, List.set_cons_succ, i64_w, i32_w]
        rfl
      refine last_ (i := 15) (N := none) #[true, true, true, true, true, true, true, true, true, true, true, true, true, true, true, true] rfl rfl (one_of HT_.out (by kernel_rfl)) (by decide) (fun K hK => ?_)
      refine skip_ (w1 := ?_) (by rfl) rfl ?_ ?_
      rotate_left
      · go_simp
        rfl
      refine hK.out _ _ ?_
      clear hK K
      refine done_ (done_of HT_.out (by kernel_rfl)) ?_
      go_wp2
      have HWR : Aside0 (wrap64 ((i : Int) + 1) = ((i + 1 : Nat) : Int)) := ⟨by unfold wrap64; have := HL.out; have := HBM.out; have := HJ2.out; omega⟩
      have HWJ : Aside0 (wrap64 ((j : Int) - 1) = (m : Int) - 1 - ((i + 1 : Nat) : Int)) := ⟨by unfold wrap64; have := HL.out; have := HBM.out; have := HJ2.out; omega⟩
      go_roundg (gk - 1)
      case measure => have := HI.out; have := HJ.out; omega
      case rel => exact ⟨swp x (b + i) (b + j), i + 1, by rw [HWR.out], by rw [HWJ.out], ⟨by have := HI.out; have := HJ.out; omega⟩, ⟨by have := HI.out; have := HJ.out; omega⟩, ⟨by rw [swp_len]; exact HX.out⟩, ⟨by rw [HJ.out]; exact rev_step o x b m i HX.out HBM.out (by have := HJ.out; omega) HR.out⟩, ⟨by rw [show swp x (b + i) (b + j) = (x.set (b + i) vj).set (b + j) vi by unfold swp; rw [HVI.out, HVJ.out]]; exact HP2.out.1⟩, ⟨HP2.out.2⟩⟩
    · have cj1 : decide ((i : Int) < (m : Int) - 1 - (i : Int)) = false := decide_eq_false ci
      have hx := rev_end o x b m i HX.out HBM.out (by have := HI.out; omega) (by have := HI.out; omega) HR.out
      go_wp2
      first | go_end0 | ((try simp only [Exit.inBlock, Exit.then]); refine bodyPost_ret (results_none rfl _ _ _) rfl ?_)
      exact ⟨rfl, by rw [← hx]; exact HR2.out, HK.out⟩
end Go.Proofs.Ytbkgggcpkiddmaa.P
