/- The document's answers for layer 1. -/
import Derived.Test.YtijikaihmaganaaPureBase
import Derived.Laws.Strings
namespace Go.Proofs.Ytijikaihmaganaa.Pure
open Go.RowKit Go.Proofs.Ytijikaihmaganaa.P Go.Proofs.YtijikaihmaganaaW.PrintWords Go.Proofs.YtijikaihmaganaaW.PrintLast Go.Proofs.YtijikaihmaganaaW.PrintMore
set_option linter.unusedVariables false
set_option linter.unusedSimpArgs false
theorem refScalar (c : Int) : frisketref01_Scalar.f c = some (scalB c) := (rfl : frisketref01_Scalar.f c = utf_Scalar.f c).trans (scal_eq c)
theorem str_back (a : List Int) (ha : a.all byteB = true) : (strOfNums a).toList.map (fun u => (u.toNat : Int)) = a := by
  rw [ByteArray.toList_eq, strOfNums_data, List.map_map]
  refine (List.map_congr_left (g := id) (fun x hx => ?_)).trans (List.map_id a)
  have := List.all_eq_true.1 ha x hx
  unfold byteB at this
  simp at this
  simp only [Function.comp, id]
  rw [UInt8.toNat_ofNat']
  omega
theorem str_inj {a b : List Int} (ha : a.all byteB = true) (hb : b.all byteB = true) (h : (strOfNums a).toList = (strOfNums b).toList) : a = b := by
  rw [← str_back a ha, ← str_back b hb, h]
theorem all_take {l : List Int} (h : l.all byteB = true) (i : Nat) : (l.take i).all byteB = true := by
  rw [List.all_eq_true] at h ⊢
  exact fun x hx => h x (List.mem_of_mem_take hx)
/-! Encode -/
theorem refEncode_l0 (l : List Int) (hl : l.length ≤ 1000000) : ∀ (d i : Nat) (o : List Int) (k : Nat), i + d = l.length → o.length ≤ 4 * i → d + 1 ≤ k → frisketref01_Encode.l0 k l o (i : Int) = some (encW o (encL (l.drop i)))
  | 0, i, o, k, hi, ho, hk => by
    obtain ⟨k, rfl⟩ : ∃ q, k = q + 1 := ⟨k - 1, by omega⟩
    rw [frisketref01_Encode.l0, if_neg (by omega), List.drop_eq_nil_of_le (by omega)]
    simp [encW, encL]
  | d + 1, i, o, k, hi, ho, hk => by
    obtain ⟨k, rfl⟩ : ∃ q, k = q + 1 := ⟨k - 1, by omega⟩
    have e2 : Aside0 (wrap64 ((i : Int) + 1) = ((i + 1 : Nat) : Int)) := ⟨(w64 (by omega) (by omega)).trans (by omega)⟩
    have hdr : l.drop i = rd l (i : Int) :: l.drop (i + 1) := by
      rw [List.drop_eq_getElem_cons (by omega), rd_nth l i (by omega)]
    rw [frisketref01_Encode.l0, if_pos (by omega), if_pos (by omega), refScalar, Option.bind_some, hdr]
    by_cases hs : scalB (rd l (i : Int)) = true
    · have h := (scalB_iff _).1 hs
      have hb := bytesF_len (rd l (i : Int))
      rw [if_pos hs, refBytes _ h.1 h.2.1, Option.bind_some, if_pos (by omega), e2.out, encW_cons _ _ _ hs]
      exact refEncode_l0 l hl d (i + 1) (o ++ bytesF (rd l (i : Int))) k (by omega) (by rw [List.length_append]; omega) (by omega)
    · rw [if_neg hs]
      unfold encW encL
      rw [if_neg hs]
      rfl
theorem refEncode_f (l : List Int) (hl : l.length ≤ 1000000) (k : Nat) (hk : l.length + 1 ≤ k) : frisketref01_Encode.f k l = some (encL l) := by
  unfold frisketref01_Encode.f
  have := refEncode_l0 l hl l.length 0 [] k (by omega) (by simp) hk
  rw [List.drop_zero, encW_nil] at this
  exact this
/-! Next -/
theorem next_err {b : List Int} (h : ¬ (nextL b).2.2 = 0) : nextL b = (0, 0, 11) := by
  unfold nextL at h ⊢
  by_cases g : lenF (rd b 0) = 0 ∨ b.length < lenF (rd b 0) ∨ b = []
  · rw [if_pos g]
  · rw [if_neg g] at h ⊢
    cases ht : tailsF ((b.take (lenF (rd b 0))).drop 1) (rd b 0 - headF (lenF (rd b 0))) with
    | none => rfl
    | some c =>
      rw [ht] at h
      simp only [] at h ⊢
      by_cases q : scalB c = true ∧ limF (lenF (rd b 0)) ≤ c
      · rw [if_pos q] at h; exact absurd rfl h
      · rw [if_neg q]
/-- Whether so many bytes are a scalar's. -/
def fits (b : List Int) (n : Nat) : Prop := n ≤ b.length ∧ scalB (cN b n) = true ∧ bytesF (cN b n) = b.take n
theorem fits_next {b : List Int} {n : Nat} (h : fits b n) : nextL b = (cN b n, (n : Int), 0) := by
  obtain ⟨h1, h2, h3⟩ := h
  have := bytes_next (cN b n) h2 (b.drop n)
  rw [h3, List.take_append_drop, List.length_take, show min n b.length = n by omega] at this
  exact this
theorem no_fits {b : List Int} (hb : b.all byteB = true) (h : ∀ n, 1 ≤ n → n ≤ 4 → ¬ fits b n) : nextL b = (0, 0, 11) := by
  refine next_err (fun e => ?_)
  obtain ⟨n, c, h1, h2, h3, h4, h5, h6, h7, h8⟩ := next_bytes b hb e
  subst h8
  exact h n h5 h6 ⟨h7, h2, h3.symm⟩
theorem last_step (k : Nat) (b : List Int) (n : Nat) (hb : b.all byteB = true) (hn : n ≤ b.length) (hl : b.length ≤ 1000000) (R : Int × Int × Int) (hy : fits b n → R = (cN b n, (n : Int), 0)) (hno : ¬ fits b n → frisketref01_Next.l0 k b ((n + 1 : Nat) : Int) = some R) :
    frisketref01_Next.l1 (k + 1) b (n : Int) (cN b n) (n : Int) = some R := by
  have e2 : Aside0 (wrap64 ((n : Int) + 1) = ((n + 1 : Nat) : Int)) := ⟨(w64 (by omega) (by omega)).trans (by omega)⟩
  rw [frisketref01_Next.l1, if_neg (by omega), refScalar, Option.bind_some]
  by_cases hs : scalB (cN b n) = true
  · have h := (scalB_iff _).1 hs
    rw [if_pos hs, refBytes _ h.1 h.2.1, Option.bind_some, if_pos (by omega), if_pos (by omega), Int.toNat_natCast]
    by_cases he : bytesF (cN b n) = b.take n
    · rw [if_pos (by rw [he]), hy ⟨hn, hs, he⟩]
    · rw [if_neg (fun q => he (str_inj (bytes_byte _ h.1 h.2.1) (all_take hb n) q)), e2.out]
      exact hno (fun q => he q.2.2)
  · rw [if_neg hs, e2.out]
    exact hno (fun q => hs q.2.1)
theorem byte_bnd {x : Int} (h : byteB x = true) : 0 ≤ x ∧ x < 256 := by
  unfold byteB at h
  simpa using h
theorem l1_round (k : Nat) (b : List Int) (n i : Nat) (c x : Int) (hi : i < n) (hil : i < b.length) (hx : rd b (i : Int) = x) (hb : 0 ≤ x ∧ x < 256) (hc : 0 ≤ c ∧ c < 100000000) (hl : b.length ≤ 1000000) :
    frisketref01_Next.l1 (k + 1) b (n : Int) c (i : Int) = frisketref01_Next.l1 k b (n : Int) (64 * c + x % 64) ((i + 1 : Nat) : Int) := by
  have e1 : Aside0 (wrap64 (64 * c) = 64 * c) := ⟨w64 (by omega) (by omega)⟩
  have e2 : Aside0 (wrap64 x = x) := ⟨w64 (by omega) (by omega)⟩
  have e3 : Aside0 (wrap64 (64 * c + x % 64) = 64 * c + x % 64) := ⟨w64 (by omega) (by omega)⟩
  have e4 : Aside0 (wrap64 ((i : Int) + 1) = ((i + 1 : Nat) : Int)) := ⟨(w64 (by omega) (by omega)).trans (by omega)⟩
  have e5 : Int.tmod x 64 = x % 64 := Int.tmod_eq_emod_of_nonneg hb.1
  rw [frisketref01_Next.l1, if_pos (by omega), if_pos (by omega), if_pos (by omega), hx, e1.out, e2.out, e5, e3.out, e4.out]
theorem enter_l0 (k : Nat) (b : List Int) (n : Nat) (b0 : Int) (r : List Int) (he : b = b0 :: r) (hn : n ≤ b.length) (h1 : 1 ≤ n) (h4 : n ≤ 4) (h0 : 0 ≤ b0 ∧ b0 < 256) :
    frisketref01_Next.l0 (k + 5) b (n : Int) = frisketref01_Next.l1 k b (n : Int) (if n = 1 then b0 else if n = 2 then b0 % 32 else if n = 3 then b0 % 16 else b0 % 8) 1 := by
  subst he
  have e2 : Aside0 (wrap64 b0 = b0) := ⟨w64 (by omega) (by omega)⟩
  have t1 : Int.tmod b0 32 = b0 % 32 := Int.tmod_eq_emod_of_nonneg h0.1
  have t2 : Int.tmod b0 16 = b0 % 16 := Int.tmod_eq_emod_of_nonneg h0.1
  have t3 : Int.tmod b0 8 = b0 % 8 := Int.tmod_eq_emod_of_nonneg h0.1
  rw [frisketref01_Next.l0, if_pos (by omega), decide_eq_true (by omega), frisketref01_Next.j1, if_pos rfl, if_pos (by simp), rd_z, e2.out, t1]
  have : n = 1 ∨ n = 2 ∨ n = 3 ∨ n = 4 := by omega
  rcases this with rfl | rfl | rfl | rfl
  · rw [if_neg (by decide), frisketref01_Next.j2, if_neg (by decide), frisketref01_Next.j3, if_neg (by decide), frisketref01_Next.j4]; rfl
  · rw [if_pos (by decide), frisketref01_Next.j2, if_neg (by decide), frisketref01_Next.j3, if_neg (by decide), frisketref01_Next.j4]; rfl
  · rw [if_neg (by decide), frisketref01_Next.j2, if_pos (by decide), t2, frisketref01_Next.j3, if_neg (by decide), frisketref01_Next.j4]; rfl
  · rw [if_neg (by decide), frisketref01_Next.j2, if_neg (by decide), frisketref01_Next.j3, if_pos (by decide), t3, frisketref01_Next.j4]; rfl
theorem stop_l0 (k : Nat) (b : List Int) (n : Nat) (h : b.length < n ∨ 4 < n) : frisketref01_Next.l0 (k + 2) b (n : Int) = some (0, 0, 11) := by
  rw [frisketref01_Next.l0]
  by_cases c : (n : Int) ≤ 4
  · rw [if_pos c, decide_eq_false (by omega), frisketref01_Next.j1, if_neg (by decide)]
  · rw [if_neg c, frisketref01_Next.j1, if_neg (by decide)]
theorem step_l0 (k : Nat) (b : List Int) (n : Nat) (hb : b.all byteB = true) (hl : b.length ≤ 1000000) (hn : n ≤ b.length) (h1 : 1 ≤ n) (h4 : n ≤ 4) (R : Int × Int × Int) (hy : fits b n → R = (cN b n, (n : Int), 0)) (hno : ¬ fits b n → frisketref01_Next.l0 k b ((n + 1 : Nat) : Int) = some R) :
    frisketref01_Next.l0 (k + n + 5) b (n : Int) = some R := by
  have hls := last_step k b n hb hn hl R hy hno
  have : n = 1 ∨ n = 2 ∨ n = 3 ∨ n = 4 := by omega
  rcases this with rfl | rfl | rfl | rfl
  · match b, hn with
    | b0 :: r, hn =>
      simp only [List.all_cons, Bool.and_eq_true] at hb
      rw [enter_l0 (k + 1) (b0 :: r) 1 b0 r rfl hn (by omega) (by omega) (byte_bnd hb.1)]
      exact hls
  · match b, hn with
    | b0 :: x :: r, hn =>
      simp only [List.all_cons, Bool.and_eq_true] at hb
      have v0 := byte_bnd hb.1
      have v1 := byte_bnd hb.2.1
      rw [enter_l0 (k + 2) (b0 :: x :: r) 2 b0 (x :: r) rfl hn (by omega) (by omega) v0, if_neg (by decide), if_pos rfl]
      have := l1_round (k + 1) (b0 :: x :: r) 2 1 (b0 % 32) x (by omega) (by simp) rfl v1 (by omega) hl
      exact this.trans hls
  · match b, hn with
    | b0 :: x :: y :: r, hn =>
      simp only [List.all_cons, Bool.and_eq_true] at hb
      have v0 := byte_bnd hb.1
      have v1 := byte_bnd hb.2.1
      have v2 := byte_bnd hb.2.2.1
      rw [enter_l0 (k + 3) (b0 :: x :: y :: r) 3 b0 (x :: y :: r) rfl hn (by omega) (by omega) v0, if_neg (by decide), if_neg (by decide), if_pos rfl]
      have q1 := l1_round (k + 2) (b0 :: x :: y :: r) 3 1 (b0 % 16) x (by omega) (by simp) rfl v1 (by omega) hl
      have q2 := l1_round (k + 1) (b0 :: x :: y :: r) 3 2 (64 * (b0 % 16) + x % 64) y (by omega) (by simp) rfl v2 (by omega) hl
      exact q1.trans (q2.trans hls)
  · match b, hn with
    | b0 :: x :: y :: z :: r, hn =>
      simp only [List.all_cons, Bool.and_eq_true] at hb
      have v0 := byte_bnd hb.1
      have v1 := byte_bnd hb.2.1
      have v2 := byte_bnd hb.2.2.1
      have v3 := byte_bnd hb.2.2.2.1
      rw [enter_l0 (k + 4) (b0 :: x :: y :: z :: r) 4 b0 (x :: y :: z :: r) rfl hn (by omega) (by omega) v0, if_neg (by decide), if_neg (by decide), if_neg (by decide)]
      have q1 := l1_round (k + 3) (b0 :: x :: y :: z :: r) 4 1 (b0 % 8) x (by omega) (by simp) rfl v1 (by omega) hl
      have q2 := l1_round (k + 2) (b0 :: x :: y :: z :: r) 4 2 (64 * (b0 % 8) + x % 64) y (by omega) (by simp) rfl v2 (by omega) hl
      have q3 := l1_round (k + 1) (b0 :: x :: y :: z :: r) 4 3 (64 * (64 * (b0 % 8) + x % 64) + y % 64) z (by omega) (by simp) rfl v3 (by omega) hl
      exact q1.trans (q2.trans (q3.trans hls))
theorem refNext_f (b : List Int) (hb : b.all byteB = true) (hl : b.length ≤ 1000000) (k : Nat) (hk : 32 ≤ k) : frisketref01_Next.f k b = some (nextL b) := by
  obtain ⟨k, rfl⟩ : ∃ q, k = q + 32 := ⟨k - 32, by omega⟩
  unfold frisketref01_Next.f
  have h5 : (∀ n, 1 ≤ n → n ≤ 4 → ¬ fits b n) → ∀ q m : Nat, (b.length < m ∨ 4 < m) → frisketref01_Next.l0 (q + 2) b (m : Int) = some (nextL b) := fun h q m hm => by
    rw [no_fits hb h]
    exact stop_l0 q b m hm
  have big : ∀ n : Nat, b.length < n → ¬ fits b n := fun n hn q => by have := q.1; omega
  by_cases n1 : 1 ≤ b.length
  case neg => exact h5 (fun n h _ => big n (by omega)) (k + 30) 1 (.inl (by omega))
  refine step_l0 (k + 26) b 1 hb hl n1 (by omega) (by omega) (nextL b) (fun h => fits_next h) (fun f1 => ?_)
  by_cases n2 : 2 ≤ b.length
  case neg => exact h5 (fun n h _ => by
    by_cases e : n = 1
    · subst e; exact f1
    · exact big n (by omega)) (k + 24) 2 (.inl (by omega))
  refine step_l0 (k + 19) b 2 hb hl n2 (by omega) (by omega) (nextL b) (fun h => fits_next h) (fun f2 => ?_)
  by_cases n3 : 3 ≤ b.length
  case neg => exact h5 (fun n h _ => by
    by_cases e : n = 1
    · subst e; exact f1
    · by_cases e2 : n = 2
      · subst e2; exact f2
      · exact big n (by omega)) (k + 17) 3 (.inl (by omega))
  refine step_l0 (k + 11) b 3 hb hl n3 (by omega) (by omega) (nextL b) (fun h => fits_next h) (fun f3 => ?_)
  have none4 : ∀ n, 1 ≤ n → n ≤ 3 → ¬ fits b n := fun n h1 h2 => by
    have : n = 1 ∨ n = 2 ∨ n = 3 := by omega
    rcases this with rfl | rfl | rfl
    · exact f1
    · exact f2
    · exact f3
  by_cases n4 : 4 ≤ b.length
  case neg => exact h5 (fun n h h' => by
    by_cases e : n ≤ 3
    · exact none4 n h e
    · exact big n (by omega)) (k + 9) 4 (.inl (by omega))
  refine step_l0 (k + 2) b 4 hb hl n4 (by omega) (by omega) (nextL b) (fun h => fits_next h) (fun f4 => ?_)
  exact h5 (fun n h h' => by
    by_cases e : n ≤ 3
    · exact none4 n h e
    · obtain rfl : n = 4 := by omega
      exact f4) k 5 (.inr (by omega))
/-! Decode, Wrong -/
theorem scanN_wrong (l : List Int) : ∀ d i, (scanN l d i).2.2 = true → (scanN l d i).1 = []
  | 0, i, h => by simp [scanN]
  | d + 1, i, h => by
    rw [scanN] at h ⊢
    have ih := scanN_wrong l d (i + (nextL (l.drop i)).2.1.toNat)
    by_cases c1 : i < l.length
    · rw [if_pos c1] at h ⊢
      by_cases c2 : (nextL (l.drop i)).2.2 = 0
      · rw [if_pos c2] at h ⊢
        by_cases c3 : (scanN l d (i + (nextL (l.drop i)).2.1.toNat)).2.2 = true
        · rw [if_pos c3] at h ⊢; exact ih c3
        · rw [if_neg c3] at h; exact absurd h (by simp)
      · rw [if_neg c2] at h ⊢
    · rw [if_neg c1] at h; exact absurd h (by simp)
def decA (r : List Int × Int × Bool) : List Int × Int := if r.2.2 = true then ([], 11) else (r.1, 0)
/-- What is left, behind scalars that are there already. -/
theorem refDecode_l0 (l : List Int) (hb : l.all byteB = true) (hl : l.length ≤ 1000000) : ∀ (d i : Nat) (o : List Int) (k : Nat), i ≤ l.length → l.length + 1 ≤ d + i → o.length ≤ i → d + 40 ≤ k → frisketref01_Decode.l0 k l o (i : Int) = some (decA (scanW o (scanN l d i)))
  | 0, i, o, k, hi, hd, ho, hk => absurd hd (by omega)
  | d + 1, i, o, k, hi, hd, ho, hk => by
    obtain ⟨k, rfl⟩ : ∃ q, k = q + 1 := ⟨k - 1, by omega⟩
    rw [frisketref01_Decode.l0, scanN]
    by_cases c1 : i < l.length
    · rw [if_pos (by omega), if_pos (by omega), if_pos (by omega), Int.toNat_natCast, refNext_f (l.drop i) (all_drop hb i) (by rw [List.length_drop]; omega) k (by omega), Option.bind_some, if_pos c1]
      by_cases c2 : (nextL (l.drop i)).2.2 = 0
      · have hn := next_ok c2
        rw [List.length_drop] at hn
        obtain ⟨n, hnn⟩ : ∃ n : Nat, (nextL (l.drop i)).2.1 = (n : Int) := ⟨(nextL (l.drop i)).2.1.toNat, by omega⟩
        rw [hnn] at hn
        have e2 : Aside0 (wrap64 ((i : Int) + (n : Int)) = ((i + n : Nat) : Int)) := ⟨(w64 (by omega) (by omega)).trans (by omega)⟩
        rw [if_pos c2, if_pos c2, if_pos (by omega), hnn, e2.out, Int.toNat_natCast]
        rw [refDecode_l0 l hb hl d (i + n) (o ++ [(nextL (l.drop i)).1]) k (by omega) (by omega) (by rw [List.length_append, List.length_cons, List.length_nil]; omega) (by omega)]
        congr 2
        unfold scanW
        by_cases g : (scanN l d (i + n)).2.2 = true
        · rw [if_pos g, if_pos g, if_pos g]
        · rw [if_neg g, if_neg g, if_neg (show ¬ (false = true) by decide)]; simp
      · rw [if_neg c2, if_neg c2, next_err c2]
        rfl
    · rw [if_neg (by omega), if_neg c1]
      unfold scanW decA
      rw [if_neg (show ¬ (false = true) by decide), if_neg (show ¬ (false = true) by decide), List.append_nil]
theorem refDecode_f (l : List Int) (hb : l.all byteB = true) (hl : l.length ≤ 1000000) (k : Nat) (hk : l.length + 50 ≤ k) : frisketref01_Decode.f k l = some (decA (scanN l (l.length + 1) 0)) := by
  unfold frisketref01_Decode.f
  have := refDecode_l0 l hb hl (l.length + 1) 0 [] k (by omega) (by omega) (by simp) (by omega)
  rw [scanW_nil] at this
  exact this
theorem refWrong_l0 (l : List Int) (hb : l.all byteB = true) (hl : l.length ≤ 1000000) : ∀ (d i : Nat) (k : Nat), i ≤ l.length → l.length + 1 ≤ d + i → d + 40 ≤ k → frisketref01_Wrong.l0 k l (i : Int) = some (scanN l d i).2
  | 0, i, k, hi, hd, hk => absurd hd (by omega)
  | d + 1, i, k, hi, hd, hk => by
    obtain ⟨k, rfl⟩ : ∃ q, k = q + 1 := ⟨k - 1, by omega⟩
    rw [frisketref01_Wrong.l0, scanN]
    by_cases c1 : i < l.length
    · rw [if_pos (by omega), if_pos (by omega), if_pos (by omega), Int.toNat_natCast, refNext_f (l.drop i) (all_drop hb i) (by rw [List.length_drop]; omega) k (by omega), Option.bind_some, if_pos c1]
      by_cases c2 : (nextL (l.drop i)).2.2 = 0
      · have hn := next_ok c2
        rw [List.length_drop] at hn
        obtain ⟨n, hnn⟩ : ∃ n : Nat, (nextL (l.drop i)).2.1 = (n : Int) := ⟨(nextL (l.drop i)).2.1.toNat, by omega⟩
        rw [hnn] at hn
        have e2 : Aside0 (wrap64 ((i : Int) + (n : Int)) = ((i + n : Nat) : Int)) := ⟨(w64 (by omega) (by omega)).trans (by omega)⟩
        rw [if_pos c2, if_pos c2, hnn, e2.out, Int.toNat_natCast]
        rw [refWrong_l0 l hb hl d (i + n) k (by omega) (by omega) (by omega)]
        by_cases g : (scanN l d (i + n)).2.2 = true
        · rw [if_pos g]
        · rw [if_neg g]
          congr 1
          have gen : ∀ d i, (scanN l d i).2.2 ≠ true → (scanN l d i).2 = (0, false) := by
            intro d
            induction d with
            | zero => intro i _; rfl
            | succ d ih =>
              intro i h
              rw [scanN] at h ⊢
              by_cases k1 : i < l.length
              · rw [if_pos k1] at h ⊢
                by_cases k2 : (nextL (l.drop i)).2.2 = 0
                · rw [if_pos k2] at h ⊢
                  by_cases k3 : (scanN l d (i + (nextL (l.drop i)).2.1.toNat)).2.2 = true
                  · rw [if_pos k3] at h; exact absurd k3 h
                  · rw [if_neg k3]
                · rw [if_neg k2] at h; exact absurd rfl h
              · rw [if_neg k1]
          exact gen _ _ g
      · rw [if_neg c2, if_neg c2]
    · rw [if_neg (by omega), if_neg c1]
theorem refWrong_f (l : List Int) (hb : l.all byteB = true) (hl : l.length ≤ 1000000) (k : Nat) (hk : l.length + 50 ≤ k) : frisketref01_Wrong.f k l = some (scanN l (l.length + 1) 0).2 := by
  unfold frisketref01_Wrong.f
  exact refWrong_l0 l hb hl (l.length + 1) 0 k (by omega) (by omega) (by omega)
theorem decode_f (l : List Int) (hb : l.all byteB = true) (hl : l.length ≤ 1000000) : utf_Decode.f l = some (decA (scanN l (l.length + 1) 0)) := by
  unfold utf_Decode.f utf_scan.f decA
  rw [if_pos ⟨hb, by omega⟩, Option.bind_some]
  split <;> rfl
theorem wrong_f (l : List Int) (hb : l.all byteB = true) (hl : l.length ≤ 1000000) : utf_Wrong.f l = some (scanN l (l.length + 1) 0).2 := by
  unfold utf_Wrong.f utf_scan.f
  rw [if_pos ⟨hb, by omega⟩, Option.bind_some]
theorem encode_f (l : List Int) (hl : l.length ≤ 1000000) : utf_Encode.f l = some (encL l) := by
  unfold utf_Encode.f
  rw [if_pos (by omega)]
theorem next_f (l : List Int) (hb : l.all byteB = true) (hl : l.length ≤ 1000000) : utf_Next.f l = some (nextL l) := by
  unfold utf_Next.f
  rw [if_pos ⟨hb, by omega⟩]
theorem dec_len (l : List Int) (d i : Nat) : (decA (scanN l d i)).1.length ≤ d := by
  have := scanN_len l d i
  unfold decA
  split
  · simp
  · exact this
theorem byte_of {l : List Int} (h : ∀ e ∈ l, (Lit.int .u8 e).wf = true) : l.all byteB = true := by
  rw [List.all_eq_true]
  intro x hx
  have := h x hx
  simp only [Lit.wf, Bool.and_eq_true, decide_eq_true_eq] at this
  have m1 : IntKind.u8.min = 0 := by decide
  have m2 : IntKind.u8.max = 255 := by decide
  rw [m1, m2] at this
  unfold byteB
  simp
  omega
theorem alive_f : frisketlaw01_alive.f = some true := rfl
end Go.Proofs.Ytijikaihmaganaa.Pure
