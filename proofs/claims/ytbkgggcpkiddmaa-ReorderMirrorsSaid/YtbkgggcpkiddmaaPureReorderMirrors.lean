/- The pure side of the law ReorderMirrors. -/
import Derived.Test.YtbkgggcpkiddmaaP20
import Derived.Test.YtbkgggcpkiddmaaPureMore
import Derived.Laws.BitsLemmas
namespace Go.Proofs.Ytbkgggcpkiddmaa.Pure
open Go.RowKit Go.Proofs.Ytbkgggcpkiddmaa.P Go.Proofs.YtbkgggcpkiddmaaW.PrintWords Go.Proofs.YtbkgggcpkiddmaaW.PrintLast
set_option linter.unusedVariables false
set_option linter.unusedSimpArgs false
theorem and127 (a : Int) (h : (Lit.int .i64 a).wf = true) : ∃ n : Nat, Go.bits .and .i64 a 127 = (n : Int) ∧ n < 128 := by
  have hb : (BitVec.ofInt 64 a).toNat &&& 127 < 2 ^ 7 := Nat.and_lt_two_pow _ (by decide)
  refine ⟨(BitVec.ofInt 64 a).toNat &&& 127, ?_, hb⟩
  have e : (BitVec.ofInt 64 (127 : Int)).toNat = 127 := by decide
  show IntKind.i64.wrap (((BitVec.ofInt 64 a &&& BitVec.ofInt 64 127).toNat : Nat) : Int) = _
  rw [BitVec.toNat_and, e, IntKind.wrap_i64]
  omega
theorem mirr_l0 (a : Int) (n : Nat) (hn : Go.bits .and .i64 a 127 = (n : Int)) (hn2 : n < 128) (x y : List Int) (m : Nat) (hm : m ≤ 200) (hx : x.length = m) (hy : y = x.reverse) : ∀ (d i k : Nat), i + d = m → 400 + d ≤ k → frisketlaw14_ReorderMirrors.l0 k a x y (i : Int) = some true
  | 0, i, k, hi, hk => by
    obtain ⟨k, rfl⟩ : ∃ q, k = q + 1 := ⟨k - 1, by omega⟩
    have al := alive14 k (by omega)
    have key : ∀ n : Fin 128, ((((Int.tmod ((n.1 : Nat) : Int) 2) != 0) != false) == (Go.bits .and .i64 ((n.1 : Nat) : Int) 1 == 1)) = true ∧ ((((Int.tmod ((n.1 : Nat) : Int) 2) != 0) != true) == (Go.bits .and .i64 ((n.1 : Nat) : Int) 1 == 0)) = true := by decide +kernel
    have hk := key ⟨n, hn2⟩
    simp only [] at hk
    rw [frisketlaw14_ReorderMirrors.l0, if_neg (by omega), al, Option.bind_some, if_pos rfl, hn]
    unfold reorder_Mirrors.f
    rw [Option.bind_some, if_pos hk.1, Option.bind_some, hk.2]
  | d + 1, i, k, hi, hk => by
    obtain ⟨k, rfl⟩ : ∃ q, k = q + 1 := ⟨k - 1, by omega⟩
    have ih := mirr_l0 a n hn hn2 x y m hm hx hy d (i + 1) k (by omega) (by omega)
    have hyl : y.length = m := by rw [hy, List.length_reverse, hx]
    have hw : Aside0 (wrap64 ((i : Int) + 1) = ((i + 1 : Nat) : Int)) := ⟨(w64 (by omega) (by omega)).trans (by omega)⟩
    have hw2 : Aside0 (wrap64 (wrap64 ((y.length : Int) - 1) - (i : Int)) = ((m - 1 - i : Nat) : Int)) := ⟨by rw [w64 (a := (y.length : Int) - 1) (by omega) (by omega), w64 (by omega) (by omega)]; omega⟩
    have e : rd x (i : Int) = rd y ((m - 1 - i : Nat) : Int) := by
      rw [rd_get x i (by omega), rd_get y _ (by omega)]
      subst hy
      rw [List.getElem_reverse]
      congr 1
      omega
    rw [frisketlaw14_ReorderMirrors.l0, if_pos (by omega), if_pos (by omega), hw2.out, if_pos (by omega), if_pos (by omega), if_pos e, hw.out, ih]
theorem ReorderMirrors : ∀ (l0 : List Int) (a1 : Int), l0.length * 8 ≤ 140737488351232 → l0.length ≤ maxLen → (∀ e ∈ l0, (Lit.int .i64 e).wf = true) → (Lit.int .i64 a1).wf = true → ∃ k, frisketlaw14_ReorderMirrors.f k l0 a1 = some true := by
  intro l a h _ _ ha
  obtain ⟨n, hn, hn2⟩ := and127 a ha
  refine ⟨l.length + 1000, ?_⟩
  unfold frisketlaw14_ReorderMirrors.f
  rw [apply_f l h false _ (by omega), apply_f l h true _ (by omega), Option.bind_some, Option.bind_some]
  have al := alive14 (l.length + 999) (by omega)
  unfold applyA
  rw [if_neg (show ¬ (false = true) by decide), if_pos (show true = true from rfl)]
  by_cases c : (l.length : Int) > 200
  · rw [if_pos c, show l.length + 1000 = (l.length + 999) + 1 from rfl, frisketlaw14_ReorderMirrors.j0, if_pos rfl, al, Option.bind_some, if_pos rfl, if_pos c]
  · rw [if_neg c]
    by_cases ho : okL l
    · rw [ordA_ok ho]
      have xl := ord_len l
      generalize ord l = x at *
      simp only []
      rw [show ((0 : Int) != 0) = false from rfl, show l.length + 1000 = ((l.length + 998) + 1) + 1 from rfl, frisketlaw14_ReorderMirrors.j0, if_neg (by decide), if_pos rfl, show (((x.length : Int)) != ((x.reverse.length : Int))) = false by rw [List.length_reverse, bne_self_eq_false], frisketlaw14_ReorderMirrors.j1, if_neg (by decide)]
      exact mirr_l0 a n hn hn2 x x.reverse l.length (by omega) xl rfl l.length 0 _ (by omega) (by omega)
    · rw [ordA_no ho]
      simp only []
      rw [show ((81 : Int) != 0) = true from rfl, show l.length + 1000 = (l.length + 999) + 1 from rfl, frisketlaw14_ReorderMirrors.j0, if_pos rfl, al, Option.bind_some, if_pos rfl, if_neg c]
      rfl
end Go.Proofs.Ytbkgggcpkiddmaa.Pure
