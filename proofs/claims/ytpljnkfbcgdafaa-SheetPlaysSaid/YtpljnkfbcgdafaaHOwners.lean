/- slices.Sort over an own row of whole numbers, by the shelf's contract. slices.Sorted over a map's values, whatever they are. A row without neighbours that are equal. slices.Compact over an own row. slices.Compact over any own row; the sheet's Owners. -/
import Derived.Test.YtpljnkfbcgdafaaHVals
import Derived.Test.YtpljnkfbcgdafaaHSortLay
import Derived.Sort.OwnSortedInts
import Derived.Shelf.SortM.SortNone
import Derived.Lib.SliceRun

namespace Go.Proofs.Ytpljnkfbcgdafaa.P
open Go.RowKit Go.Shelf Go.Sort Go.Proofs Go.Proofs.YtpljnkfbcgdafaaW.PrintWords Go.Proofs.YtpljnkfbcgdafaaW.PrintLast Go.Proofs.YtpljnkfbcgdafaaW.PrintMore
set_option linter.unusedVariables false
set_option linter.unusedSimpArgs false

theorem inner_int {w : World} {base : Nat} {ok : Nat → Prop} {L : List Int} {cs : List Value} (h : Reps ((Kd.int .i64).M w base ok) 1 L cs) : cs = L.map (Value.int .i64) := by
  obtain ⟨h1, h2⟩ := h
  rw [Nat.mul_one] at h1
  apply List.ext_getElem (by simpa using h1)
  intro j hj hj2
  have hl : j < L.length := by omega
  have h3 : (cs.drop (j * 1)).take 1 = [.int .i64 L[j]] := h2 j L[j] (List.getElem?_eq_getElem hl)
  rw [Nat.mul_one, List.drop_eq_getElem_cons hj] at h3
  simp only [List.take_succ_cons, List.take_zero, List.cons.injEq, and_true] at h3
  rw [h3]
  simp
def srt (xs : List Int) : List Int := xs.mergeSort fun x y => decide (x ≤ y)
theorem Sort_all (P0_ : Nat → Prop) (v : Value) (xs : List Int) (w0 w : World) (hx : xs ≠ []) (hlen : xs.length ≤ 1000000) (hB : Below w0.heap.size w0 w) (ho0 : Kd.R (Kd.int .i64) 3 w w0.heap.size P0_ v xs) :
    Calls Try.prog 35 #[v] w fun e w' => e = .returned (.tuple #[]) ∧ Kd.R (Kd.int .i64) 3 w' w0.heap.size (fun _ => True) v (srt xs) ∧ Below w0.heap.size w0 w' ∧ w.grownBy w' v.ownBlock := by
  have h1 := ho0
  obtain ⟨hok, inner, hown, hreps⟩ := h1
  have hin := inner_int hreps
  subst hin
  obtain ⟨hl, hn | ⟨g, c, cur, rfl, hbase, hheap, hnc, hcm, hcs, htake⟩⟩ := hown
  · exact absurd (List.length_eq_zero_iff.1 (by have := hn.2; simpa using this)) hx
  have htk : cur.toList.take xs.length = xs.map (Value.int .i64) := by
    have h5 : cur.toList.take (xs.length * 1) = xs.map (Value.int .i64) := htake
    rwa [Nat.mul_one] at h5
  refine (AnyM.slices_Sort_int Try.l g 0 c xs w (holds_of_blockI hheap htk) (blk_lt hheap) (by omega)).mono ?_
  rintro e w' ⟨rfl, n, os, rfl⟩
  have hg := grownBy_sortedI (w := w) (g := g) (n := n) (os := os) (xs.mergeSort fun x y => decide (x ≤ y)).toArray
  refine ⟨rfl, ⟨fun _ _ => trivial, _, ?_, reps_int _⟩, hB.trans ⟨hg.os, hg.tape, hg.output, hg.size, fun i hi => hg.block i (by have := hB.size; omega) (by have : w0.heap.size ≤ g := hbase; simp; omega)⟩, hg⟩
  have hls : (srt xs).length = xs.length := List.length_mergeSort xs
  rw [hls]
  exact ownsRow_sortedI hls hbase hheap hnc hcm hcs
end Go.Proofs.Ytpljnkfbcgdafaa.P

namespace Go.Proofs.Ytpljnkfbcgdafaa.P
open Go.RowKit Go.Shelf Go.Sort Go.Proofs Go.Proofs.YtpljnkfbcgdafaaW.PrintWords Go.Proofs.YtpljnkfbcgdafaaW.PrintLast Go.Proofs.YtpljnkfbcgdafaaW.PrintMore
set_option linter.unusedVariables false
set_option linter.unusedSimpArgs false

theorem srt_perm (xs : List Int) : (srt xs).Perm xs := List.mergeSort_perm xs _
theorem srt_asc (xs : List Int) : (srt xs).Pairwise (fun a b => a ≤ b) := by
  have h := List.pairwise_mergeSort (le := fun x y : Int => decide (x ≤ y)) (fun a b c h1 h2 => by simp at *; omega) (fun a b => by simp; omega) xs
  exact h.imp (fun h => by simpa using h)
theorem Sort_any (P0_ : Nat → Prop) (v : Value) (xs : List Int) (w0 w : World) (hlen : xs.length ≤ 1000000) (hB : Below w0.heap.size w0 w) (ho0 : Kd.R (Kd.int .i64) 3 w w0.heap.size P0_ v xs) :
    Calls Try.prog 35 #[v] w fun e w' => e = .returned (.tuple #[]) ∧ (∃ P1, Kd.R (Kd.int .i64) 3 w' w0.heap.size P1 v (srt xs)) ∧ Below w0.heap.size w0 w' ∧ w.grownBy w' v.ownBlock := by
  by_cases hx : xs = []
  · subst hx
    obtain ⟨A, c, rfl⟩ := Kd.R_slice ho0
    refine (AnyM.slices_Sort_int_none Try.l A c w).mono ?_
    rintro e w' ⟨rfl, rfl⟩
    exact ⟨rfl, ⟨P0_, by rw [show srt [] = [] by simp [srt]]; exact ho0⟩, hB, ⟨rfl, rfl, rfl, Nat.le_refl _, fun _ _ _ => rfl⟩⟩
  · exact (Sort_all P0_ v xs w0 w hx hlen hB ho0).mono fun e w' ⟨h1, h2, h3, h4⟩ => ⟨h1, ⟨_, h2⟩, h3, h4⟩
set_option maxHeartbeats 2000000 in
set_option maxRecDepth 100000 in
theorem Sorted.calls (Bn mb : Nat) (es : List Ent) (hes : es.length ≤ 1000000) (w : World) (hb : Boxed w Bn 50 (.map (some mb))) (ho : OwnE w mb es) :
    Calls Try.prog 26 #[.func (.func 36) #[] #[.pointer (some ⟨Bn, 0, none⟩)]] w fun e w' => ∃ v P1 xs, e = .returned v ∧ Kd.R (Kd.int .i64) 3 w' w.heap.size P1 v xs ∧ xs.Perm (valsE es) ∧ xs.Pairwise (fun a b => a ≤ b) ∧ Below w.heap.size w w' := by
  have HC := Aside0.mk (collect.calls Bn mb es hes w hb ho)
  have HES := Aside0.mk hes
  clear hb ho hes
  go_enter Try.func26, Try.ntmps26
  go_wp2_with (first
    | (go_at_call 34; refine HC.out.mono ?_; rintro e w1 ⟨done, v, hp, rfl, hr, hb⟩; have HR := Aside0.mk hr; have HB := Aside0.mk hb; have HP := Aside0.mk hp; clear hr hb hp)
    | (go_at_call 35; refine (Sort_any _ _ _ w _ (by have h1 := HP.out.length_eq; have h2 := HES.out; have h3 : (valsE done).length = done.length := List.length_map _; omega) HB.out HR.out).mono ?_; rintro e w2 ⟨rfl, ⟨P1, hr⟩, hb, _⟩))
  go_ret
  exact ⟨_, P1, _, rfl, hr, (srt_perm _).trans (HP.out.map _), srt_asc _, hb⟩
end Go.Proofs.Ytpljnkfbcgdafaa.P

namespace Go.Proofs.Ytpljnkfbcgdafaa.P
set_option linter.unusedVariables false
set_option linter.unusedSimpArgs false

def cmp : List Int → List Int
  | [] => []
  | [x] => [x]
  | x :: y :: r => if x = y then cmp (y :: r) else x :: cmp (y :: r)
theorem cmp_mem (a : Int) : ∀ xs : List Int, a ∈ cmp xs ↔ a ∈ xs
  | [] => by simp [cmp]
  | [x] => by simp [cmp]
  | x :: y :: r => by
    have ih := cmp_mem a (y :: r)
    rw [cmp]
    by_cases h : x = y
    · rw [if_pos h, ih, h]; simp
    · rw [if_neg h, List.mem_cons, ih, List.mem_cons (b := x)]
theorem cmp_asc : ∀ xs : List Int, xs.Pairwise (fun a b => a ≤ b) → (cmp xs).Pairwise (fun a b => a < b)
  | [], _ => by simp [cmp]
  | [x], _ => by simp [cmp]
  | x :: y :: r, h => by
    obtain ⟨h1, h2⟩ := List.pairwise_cons.1 h
    have ih := cmp_asc (y :: r) h2
    rw [cmp]
    by_cases he : x = y
    · rw [if_pos he]; exact ih
    · rw [if_neg he]
      refine List.pairwise_cons.2 ⟨fun a ha => ?_, ih⟩
      have hm := (cmp_mem a (y :: r)).1 ha
      have h3 := h1 y (by simp)
      rcases List.mem_cons.1 hm with rfl | hm
      · omega
      · have h4 := (List.pairwise_cons.1 h2).1 a hm
        omega
theorem cmp_snoc (y : Int) : ∀ (xs : List Int) (z : Int), cmp (xs ++ [z] ++ [y]) = if z = y then cmp (xs ++ [z]) else cmp (xs ++ [z]) ++ [y]
  | [], z => by
    show cmp [z, y] = _
    rw [cmp]
    by_cases h : z = y
    · rw [if_pos h, if_pos h, h]; rfl
    · rw [if_neg h, if_neg h]; rfl
  | [x], z => by
    show cmp (x :: z :: [y]) = if z = y then cmp (x :: z :: []) else cmp (x :: z :: []) ++ [y]
    by_cases h : z = y <;> by_cases h2 : x = z <;> simp [h, h2, cmp]
  | x :: w :: r, z => by
    have ih := cmp_snoc y (w :: r) z
    show cmp (x :: w :: (r ++ [z] ++ [y])) = if z = y then cmp (x :: w :: (r ++ [z])) else cmp (x :: w :: (r ++ [z])) ++ [y]
    have e1 : ∀ t, cmp (x :: w :: t) = if x = w then cmp (w :: t) else x :: cmp (w :: t) := fun t => by rw [cmp]
    have ih2 : cmp (w :: (r ++ [z] ++ [y])) = if z = y then cmp (w :: (r ++ [z])) else cmp (w :: (r ++ [z])) ++ [y] := ih
    rw [e1, e1, ih2]
    by_cases h : z = y <;> by_cases h2 : x = w <;> simp [h, h2]
end Go.Proofs.Ytpljnkfbcgdafaa.P

namespace Go.Proofs.Ytpljnkfbcgdafaa.P
open Go.RowKit Go.Shelf Go.Proofs.YtpljnkfbcgdafaaW.PrintWords Go.Proofs.YtpljnkfbcgdafaaW.PrintLast Go.Proofs.YtpljnkfbcgdafaaW.PrintMore
set_option linter.unusedVariables false
set_option linter.unusedSimpArgs false

/-- The cells of the row while it is made compact: m of them are ready, those from f on are as they were. -/
structure CS (cur : Array Value) (xs : List Int) (m f : Nat) (ys : List Int) : Prop where
  size : xs.length ≤ cur.size
  len : ys.length = m
  done : ∀ i (h : i < ys.length), cur[i]? = some (.int .i64 ys[i])
  rest : ∀ i (h : i < xs.length), f ≤ i → cur[i]? = some (.int .i64 xs[i])
theorem CS.start {cur : Array Value} {xs : List Int} (hs : xs.length ≤ cur.size) (ht : cur.toList.take xs.length = xs.map (Value.int .i64)) (k : Nat) (hk : k ≤ xs.length) : CS cur xs k 0 (xs.take k) := by
  have all : ∀ i (h : i < xs.length), cur[i]? = some (.int .i64 xs[i]) := by
    intro i h
    have h1 : (cur.toList.take xs.length)[i]? = (xs.map (Value.int .i64))[i]? := by rw [ht]
    rw [List.getElem?_take_of_lt h] at h1
    rw [← Array.getElem?_toList, h1]
    simp [h]
  refine ⟨hs, by simp; omega, fun i h => ?_, fun i h _ => all i h⟩
  have hi : i < xs.length := by simp at h; omega
  rw [all i hi]
  simp
theorem CS.put {cur : Array Value} {xs : List Int} {m f : Nat} {ys : List Int} (h : CS cur xs m f ys) (x : Int) (hm : m ≤ f) (hf : f < xs.length) : CS (cur.setIfInBounds m (.int .i64 x)) xs (m + 1) (f + 1) (ys ++ [x]) := by
  have hlen := h.len
  refine ⟨by rw [Array.size_setIfInBounds]; exact h.size, by simp [hlen], fun i hi => ?_, fun i hi hfi => ?_⟩
  · rw [Array.getElem?_setIfInBounds]
    by_cases he : m = i
    · subst he
      rw [if_pos rfl, if_pos (by have := h.size; omega)]
      simp [hlen]
    · rw [if_neg he]
      have hi2 : i < ys.length := by simp at hi; omega
      rw [h.done i hi2]
      simp [List.getElem_append_left hi2]
  · rw [Array.getElem?_setIfInBounds, if_neg (by omega)]
    exact h.rest i hi (by omega)
theorem CS.more {cur : Array Value} {xs : List Int} {m f : Nat} {ys : List Int} (h : CS cur xs m f ys) {f' : Nat} (hf : f ≤ f') : CS cur xs m f' ys := ⟨h.size, h.len, h.done, fun i hi hfi => h.rest i hi (by omega)⟩
theorem cmp_take_succ (xs : List Int) (k : Nat) (h0 : 1 ≤ k) (hk : k < xs.length) : cmp (xs.take (k + 1)) = if xs[k - 1] = xs[k] then cmp (xs.take k) else cmp (xs.take k) ++ [xs[k]] := by
  have e1 : xs.take (k + 1) = xs.take k ++ [xs[k]] := List.take_succ_eq_append_getElem hk
  have e2 : xs.take k = xs.take (k - 1) ++ [xs[k - 1]] := by
    have := List.take_succ_eq_append_getElem (show k - 1 < xs.length by omega)
    rw [show k - 1 + 1 = k by omega] at this
    exact this
  rw [e1, e2]
  exact cmp_snoc _ _ _
theorem C_mk {w : World} {g : Nat} {ys : List Int} (hlen : ys.length ≤ 9223372036854775807) (h : ∀ i (hi : i < ys.length), w.cell? ⟨g, i, none⟩ = some (.int .i64 ys[i])) : Kd.C (Kd.int .i64) w (some ⟨g, 0, none⟩) ys.length ys := by
  refine ⟨rfl, hlen, fun _ => ⟨⟨g, 0, none⟩, rfl, fun j p hj => ⟨[.int .i64 p], rfl, rfl, fun i u hu => ?_⟩⟩⟩
  obtain ⟨hl, rfl⟩ := List.getElem?_eq_some_iff.1 hj
  match i, hu with
  | 0, hu =>
    obtain rfl := (Option.some.inj hu).symm
    have e : (⟨g, 0, none⟩ : Addr).add (j * 1 + 0) = ⟨g, j, none⟩ := by unfold Addr.add; simp; omega
    show w.cell? ((⟨g, 0, none⟩ : Addr).add (j * 1 + 0)) = _
    rw [e]
    exact h j hl
theorem below_sc {B b : Nat} {a : World} (hb : B ≤ b) : ∀ (vs : List Value) (o : Nat) (w : World), Below B a w → Below B a (w.setCells b o vs)
  | [], _, _, h => h
  | v :: r, o, w, h => below_sc hb r (o + 1) _ (h.setCell (p := ⟨b, o, none⟩) hb v)
theorem blk_drewN {w : World} {g : Nat} {o : Obj} (h : w.heap[g]? = some o) (q : Nat) : (w.drewN q).heap[g]? = some o := h
set_option maxHeartbeats 4000000 in
set_option maxRecDepth 100000 in
theorem Compact_own (P0_ : Nat → Prop) (g c : Nat) (cur : Array Value) (xs : List Int) (w0 w : World) (h2 : 2 ≤ xs.length) (hlen : xs.length ≤ 1000000) (hB : Below w0.heap.size w0 w) (hg : w0.heap.size ≤ g) (hheap : w.heap[g]? = some (.cells cur 3 (0, 0))) (hc : xs.length ≤ c)
    (hsz : xs.length ≤ cur.size) (htk : cur.toList.take xs.length = xs.map (Value.int .i64)) (hC : Kd.C (Kd.int .i64) w (some ⟨g, 0, none⟩) xs.length xs) :
    Calls Try.prog 25 #[.slice (some ⟨g, 0, none⟩) xs.length c] w fun e w' => (∃ A c', e = .returned (.slice A (cmp xs).length c') ∧ Kd.C (Kd.int .i64) w' A (cmp xs).length (cmp xs) ∧ (cmp xs).length ≤ c') ∧ Below w0.heap.size w0 w' := by
  have HH := Aside0.mk hheap
  have HST := Aside0.mk (CS.start hsz htk)
  have HL := Aside0.mk (And.intro h2 hlen)
  have HB := Aside0.mk hB
  have HG := Aside0.mk hg
  have HC := Aside0.mk hc
  have d2 : decide ((xs.length : Int) < 2) = false := decide_eq_false (by omega)
  have d2' : decide (xs.length < 2) = false := decide_eq_false (by omega)
  have d2'' : (xs.length < 2) = False := eq_false (by omega)
  have HKC := Aside0.mk hC
  clear h2 hlen hB hg hheap hc hsz htk hC
  go_enter Try.func25, Try.ntmps25
  go_wp2
  clear d2 d2' d2''
  go_loopg [3] (xs.length - 1) (fun kq v3 wr => ∃ k q : Nat, v3 = .int .i64 (k : Int) ∧ wr = w.drewN q ∧ Aside0 (1 ≤ k ∧ k + kq = xs.length) ∧ Aside0 (cmp (xs.take k) = xs.take k))
  case atStart => exact ⟨1, 0, rfl, rfl, ⟨by have := HL.out; omega⟩, ⟨by have := HL.out; match xs, this with | x :: r, _ => rfl⟩⟩
  case round =>
    obtain ⟨k, q, rfl, rfl, HK, HM⟩ := hrel
    by_cases ci : k < xs.length
    · have cb : decide (k < xs.length) = true := decide_eq_true ci
      have cb3 : decide ((k : Int) < (xs.length : Int)) = true := decide_eq_true (by omega)
      have cl : (k < xs.length) = True := eq_true ci
      obtain ⟨d, rfl⟩ : ∃ d, gk = d + 1 := ⟨gk - 1, by have := HK.out; omega⟩
      obtain ⟨m, hm⟩ : ∃ m, k = m + 1 := ⟨k - 1, by have := HK.out; omega⟩
      have hmk : k - 1 = m := by omega
      have hml : m < xs.length := by omega
      have hts := cmp_take_succ xs k HK.out.1 ci
      simp only [hmk] at hts
      have cs := HST.out xs.length (Nat.le_refl _)
      have x0 := (blk_cell HH.out k).trans (cs.rest k ci (by omega))
      have x1 := (blk_cell HH.out m).trans (cs.rest m hml (by omega))
      have w1 : wrap64 ((k : Int) - 1) = (m : Int) := by have := HL.out; unfold wrap64; omega
      have w1' : IntKind.i64.wrap ((k : Int) - 1) = (m : Int) := by rw [IntKind.wrap_i64]; have := HL.out; omega
      have HWP := Aside0.mk (show wrap64 ((k : Int) + 1) = ((k + 1 : Nat) : Int) by have := HL.out; unfold wrap64; omega)
      have cm : (m < xs.length) = True := eq_true hml
      have htk1 : xs.take (k + 1) = xs.take k ++ [xs[k]] := List.take_succ_eq_append_getElem ci
      generalize xs[k] = a at x0 hts htk1
      generalize xs[m] = b at x1 hts
      have HTK := Aside0.mk htk1
      have HTS := Aside0.mk hts
      have HCI := Aside0.mk ci
      clear cs hmk htk1 hts hm hml ci
      by_cases he : a = b
      · have hb : (a == b) = true := beq_iff_eq.2 he
        have HE := Aside0.mk he.symm
        clear he
        have s1 : (k ≤ xs.length) = True := eq_true (Nat.le_of_lt HCI.out)
        have s2 : (xs.length ≤ c) = True := eq_true HC.out
        have s3 : (c = k) = False := eq_false (by have := HCI.out; have := HC.out; omega)
        have s4 : (k ≤ c) = True := eq_true (by have := HCI.out; have := HC.out; omega)
        have s5 : ((k : Int) ≤ (xs.length : Int)) = True := eq_true (by have := HCI.out; omega)
        have s6 : (k = c) = False := eq_false (by have := HCI.out; have := HC.out; omega)
        have s7 : (c - k = 0) = False := eq_false (by have := HCI.out; have := HC.out; omega)
        go_wp2
        go_quiet (fail)
        go_wp2
        clear s1 s2 s3 s4 s5 s6 s7 x0 x1 w1 w1' cb cb3 cl cm hb
        have HCK := Aside0.mk (HST.out k (Nat.le_of_lt HCI.out))
        go_loopg [3, 5] (xs.length - k - 1) (fun kq v3 v5 ws => ∃ (m' j : Nat) (cur' : Array Value), v3 = .int .i64 (m' : Int) ∧ v5 = .int .i64 (j : Int) ∧ Aside0 (1 ≤ j ∧ k + j + kq = xs.length) ∧ Aside0 (CS cur' xs m' (k + j - 1) (cmp (xs.take (k + j)))) ∧ Aside0 (ws.heap[g]? = some (.cells cur' 3 (0, 0))) ∧ Aside0 (w.grownBy ws (some g)) ∧ Aside0 (m' ≤ k + j - 1))
        case atStart =>
          refine ⟨k, 1, cur, rfl, rfl, ⟨by have := HCI.out; omega⟩, ⟨?_⟩, ⟨HH.out⟩, ⟨⟨rfl, rfl, rfl, Nat.le_refl _, fun _ _ _ => rfl⟩⟩, ⟨by omega⟩⟩
          rw [HTS.out, if_pos HE.out, HM.out]
          exact HCK.out.more (by omega)
        case round =>
          obtain ⟨m', j, cur', rfl, rfl, HJ, HCS, HHW, HGR, HMJ⟩ := hrel
          by_cases cj : k + j < xs.length
          · have e1 : decide (j < xs.length - k) = true := decide_eq_true (by omega)
            have e2 : decide ((j : Int) < ((xs.length - k : Nat) : Int)) = true := decide_eq_true (by omega)
            have e3 : (j < xs.length - k) = True := eq_true (by omega)
            obtain ⟨d2, rfl⟩ : ∃ d2, gk = d2 + 1 := ⟨gk - 1, by have := HJ.out; omega⟩
            obtain ⟨r, hr⟩ : ∃ r, j = r + 1 := ⟨j - 1, by have := HJ.out; omega⟩
            have hkr : k + j - 1 = k + r := by omega
            have hrl : k + r < xs.length := by omega
            have hts2 := cmp_take_succ xs (k + j) (by omega) cj
            simp only [hkr] at hts2
            have y0 := (blk_cell HHW.out (k + j)).trans (HCS.out.rest (k + j) cj (by omega))
            have y1 := (blk_cell HHW.out (k + r)).trans (HCS.out.rest (k + r) hrl (by omega))
            have v1 : wrap64 ((j : Int) - 1) = (r : Int) := by have := HL.out; unfold wrap64; omega
            have v1' : IntKind.i64.wrap ((j : Int) - 1) = (r : Int) := by rw [IntKind.wrap_i64]; have := HL.out; omega
            have e4 : (r < xs.length - k) = True := eq_true (by omega)
            have HWJ := Aside0.mk (show wrap64 ((j : Int) + 1) = ((j + 1 : Nat) : Int) by have := HL.out; unfold wrap64; omega)
            have HCJ := Aside0.mk cj
            generalize xs[k + j] = a2 at y0 hts2
            generalize xs[k + r] = b2 at y1 hts2
            have HT2 := Aside0.mk hts2
            clear hts2 hkr hrl hr cj
            by_cases h2 : a2 = b2
            · have hb2 : (a2 != b2) = false := bne_eq_false_iff_eq.2 h2
              have H2 := Aside0.mk h2.symm
              clear h2
              go_wp2
              go_quiet (fail)
              go_wp2
              go_roundg d2
              case measure => have := HJ.out; omega
              case rel => exact ⟨m', j + 1, cur', rfl, by rw [HWJ.out], ⟨by have := HJ.out; omega⟩, ⟨by rw [← Nat.add_assoc, HT2.out, if_pos H2.out]; exact HCS.out.more (by omega)⟩, ⟨HHW.out⟩, ⟨HGR.out.trans ⟨rfl, rfl, rfl, Nat.le_refl _, fun _ _ _ => rfl⟩⟩, ⟨by have := HMJ.out; omega⟩⟩
            · have hb2 : (a2 != b2) = true := bne_iff_ne.2 h2
              have H2 := Aside0.mk (show ¬ b2 = a2 from fun h => h2 h.symm)
              obtain ⟨u, hu⟩ : ∃ u, cur'[m']? = some u := ⟨_, Array.getElem?_eq_getElem (by have := HCS.out.size; have := HMJ.out; have := HCJ.out; omega)⟩
              have y2 := (blk_cell HHW.out m').trans hu
              have f2 := bF HHW.out m'
              have e5 : (m' < xs.length) = True := eq_true (by have := HMJ.out; have := HCJ.out; have := HJ.out; omega)
              have HWM := Aside0.mk (show wrap64 ((m' : Int) + 1) = ((m' + 1 : Nat) : Int) by have := HL.out; have := HMJ.out; have := HCJ.out; unfold wrap64; omega)
              clear h2 hu
              go_wp2
              go_quiet (fail)
              go_wp2
              go_roundg d2
              case measure => have := HJ.out; omega
              case rel => exact ⟨m' + 1, j + 1, cur'.setIfInBounds m' (.int .i64 a2), by rw [HWM.out], by rw [HWJ.out], ⟨by have := HJ.out; omega⟩, ⟨by rw [← Nat.add_assoc, HT2.out, if_neg H2.out]; have h9 := HCS.out.put a2 HMJ.out (by have := HCJ.out; omega); rwa [show k + j - 1 + 1 = k + j + 1 - 1 by have := HJ.out; omega] at h9⟩, ⟨blk_put (blk_drewN HHW.out _) m' _ rfl⟩, ⟨(HGR.out.trans ⟨rfl, rfl, rfl, Nat.le_refl _, fun _ _ _ => rfl⟩).trans ⟨rfl, rfl, rfl, by simp, fun i _ hi => Below.heap_setCell _ ⟨g, m', none⟩ _ i (fun e => hi (by rw [e]))⟩⟩, ⟨by have := HMJ.out; have := HJ.out; omega⟩⟩
          · have e1 : decide (j < xs.length - k) = false := decide_eq_false (by omega)
            have e2 : decide ((j : Int) < ((xs.length - k : Nat) : Int)) = false := decide_eq_false (by omega)
            have e3 : (j < xs.length - k) = False := eq_false (by omega)
            have hkj : k + j = xs.length := by have := HJ.out; omega
            have hcs := HCS.out
            rw [hkj, List.take_length] at hcs
            have hmj := HMJ.out
            have hme : m' < xs.length := by have := HJ.out; omega
            have hcc := HC.out
            have hclr := Lib.run_clear_slice (P := Try.prog) wr 40 3 0 (.int .i64 0) Try.underlying40 zero3 rfl rfl g m' (xs.length - m') (c - m') (by omega)
              (fun i hi => by
                have hs := hcs.size
                rw [(blk_cell HHW.out (m' + i)), Array.getElem?_eq_getElem (by omega)]
                rfl)
              (fun i hi => bF HHW.out _)
            have s1 : (m' ≤ xs.length) = True := eq_true (by omega)
            have s2 : (xs.length ≤ c) = True := eq_true hcc
            have s3 : (c = m') = False := eq_false (by omega)
            have s4 : (m' ≤ c) = True := eq_true (by omega)
            have s5 : ((m' : Int) ≤ (xs.length : Int)) = True := eq_true (by omega)
            have s6 : (m' = c) = False := eq_false (by omega)
            have s7 : (c - m' = 0) = False := eq_false (by omega)
            have s8 : (c = 0) = False := eq_false (by omega)
            have HLE := Aside0.mk hcs
            have HMX := Aside0.mk hme
            clear hkj hcs hmj hme hcc
            go_wp2
            go_ret
            refine ⟨⟨some ⟨g, 0, none⟩, c, by rw [HLE.out.len]; rfl, C_mk (by have := HLE.out.len; have := HMX.out; have := HL.out; omega) (fun i hi => ?_), by have := HLE.out.len; have := HMX.out; have := HC.out; omega⟩, below_sc HG.out _ _ _ ?_⟩
            · rw [World.cell?_setCells_out g _ _ _ _ (fun _ _ => .inl (by have := HLE.out.len; simp; omega))]
              exact (blk_cell HHW.out i).trans (HLE.out.done i hi)
            · exact HB.out.trans ⟨HGR.out.os, HGR.out.tape, HGR.out.output, HGR.out.size, fun i hi => HGR.out.block i (by have := HB.out.size; omega) (by have := HG.out; simp; omega)⟩
      · have hb : (a == b) = false := beq_eq_false_iff_ne.2 he
        have HE := Aside0.mk (show ¬ b = a from fun h => he h.symm)
        clear he
        go_wp2
        go_quiet (fail)
        go_wp2
        go_roundg d
        case measure => have := HK.out; omega
        case rel => exact ⟨k + 1, _, by rw [HWP.out], rfl, ⟨by have := HK.out; omega⟩, ⟨by rw [HTS.out, if_neg HE.out, HTK.out, HM.out]⟩⟩
    · have cb : decide (k < xs.length) = false := decide_eq_false ci
      have cb3 : decide ((k : Int) < (xs.length : Int)) = false := decide_eq_false (by omega)
      have cl : (k < xs.length) = False := eq_false ci
      have hkn : k = xs.length := by have := HK.out; omega
      have hm := HM.out
      rw [hkn, List.take_length] at hm
      have HMM := Aside0.mk hm
      clear hkn hm ci
      go_wp2
      go_ret
      exact ⟨⟨some ⟨g, 0, none⟩, c, by rw [HMM.out]; rfl, by rw [HMM.out]; exact Kd.C_drewN HKC.out q, by rw [HMM.out]; exact HC.out⟩, pw_below_drewN HB.out q⟩
end Go.Proofs.Ytpljnkfbcgdafaa.P

namespace Go.Proofs.Ytpljnkfbcgdafaa.P
open Go.RowKit Go.Shelf Go.Proofs.YtpljnkfbcgdafaaW.PrintWords Go.Proofs.YtpljnkfbcgdafaaW.PrintLast Go.Proofs.YtpljnkfbcgdafaaW.PrintMore
set_option linter.unusedVariables false
set_option linter.unusedSimpArgs false

theorem cmp_short {xs : List Int} (h : xs.length < 2) : cmp xs = xs := by
  match xs, h with
  | [], _ => rfl
  | [x], _ => rfl
set_option maxHeartbeats 1000000 in
set_option maxRecDepth 100000 in
theorem Compact.calls (P0_ : Nat → Prop) (v : Value) (xs : List Int) (w0 w : World) (hlen : xs.length ≤ 1000000) (hB : Below w0.heap.size w0 w) (ho0 : Kd.R (Kd.int .i64) 3 w w0.heap.size P0_ v xs) :
    Calls Try.prog 25 #[v] w fun e w' => (∃ A c', e = .returned (.slice A (cmp xs).length c') ∧ Kd.C (Kd.int .i64) w' A (cmp xs).length (cmp xs) ∧ (cmp xs).length ≤ c') ∧ Below w0.heap.size w0 w' := by
  by_cases h2 : xs.length < 2
  · obtain ⟨A, c, rfl⟩ := Kd.R_slice ho0
    have hrr := Kd.R_reads' ho0
    have HC := Aside0.mk hrr.2.2
    have HL := Aside0.mk (show xs.length ≤ c from hrr.2.1)
    have HB := Aside0.mk hB
    have d2 : decide ((xs.length : Int) < 2) = true := decide_eq_true (by omega)
    have d2' : decide (xs.length < 2) = true := decide_eq_true h2
    have d2'' : (xs.length < 2) = True := eq_true h2
    rw [cmp_short h2]
    clear hrr ho0 hB h2 hlen
    go_enter Try.func25, Try.ntmps25
    go_wp2
    go_ret
    exact ⟨⟨A, c, rfl, HC.out, HL.out⟩, HB.out⟩
  · have h1 := ho0
    obtain ⟨hok, inner, hown, hreps⟩ := h1
    have hin := inner_int hreps
    subst hin
    obtain ⟨hl, hn | ⟨g, c, cur, rfl, hbase, hheap, hnc, hcm, hcs, htake⟩⟩ := hown
    · exact absurd (by have := hn.2; simpa using this) (show ¬ xs.length = 0 by omega)
    have htk : cur.toList.take xs.length = xs.map (Value.int .i64) := by
      have h5 : cur.toList.take (xs.length * 1) = xs.map (Value.int .i64) := htake
      rwa [Nat.mul_one] at h5
    have hcs1 : cur.size = c * 1 := hcs
    exact Compact_own P0_ g c cur xs w0 w (by omega) hlen hB hbase hheap hnc (by omega) htk (Kd.R_reads' ho0).2.2
set_option maxHeartbeats 2000000 in
set_option maxRecDepth 100000 in
/-- The owners: ascending, each once; those of the entries. -/
theorem Owners.calls (p mb : Nat) (W H : Int) (es : List Ent) (w : World) (h : Sh w p mb W H es) (hes : es.length ≤ 1000000) :
    Calls Try.prog 16 #[.pointer (some ⟨p, 0, none⟩)] w fun e w' => ∃ (A : Option Addr) (c : Nat) (l : List Int), e = .returned (.slice A l.length c) ∧ Kd.C (Kd.int .i64) w' A l.length l ∧ l.length ≤ c ∧ l.Pairwise (fun a b => a < b) ∧ (∀ a, a ∈ l ↔ a ∈ valsE es) ∧ Below w.heap.size w w' := by
  have hu52 := Try.underlying52
  have hc := h.c2
  have HS := Aside0.mk h
  have HE := Aside0.mk hes
  clear h hes
  go_enter Try.func16, Try.ntmps16
  go_wp2_with (first
    | (go_at_call 27; refine (values.calls mb _).mono ?_; rintro e w1 ⟨rfl, rfl⟩)
    | (go_at_call 26; refine (Sorted.calls w.heap.size mb es HE.out _ (Boxed.new w 50 _) (HS.out.own.kept (World.grownBy_alloc w _ none) (by simp))).mono ?_; rintro e w2 ⟨v, P1, xs, rfl, hr, hp, ha, hb⟩; have HR := Aside0.mk hr; have HB := Aside0.mk hb; have HP := Aside0.mk hp; have HA := Aside0.mk ha; clear hr hb hp ha)
    | (go_at_call 25; refine (Compact.calls P1 v xs _ _ (by have h1 := HP.out.length_eq; have h2 := HE.out; have h3 : (valsE es).length = es.length := List.length_map _; omega) HB.out HR.out).mono ?_; rintro e w3 ⟨⟨A, c, rfl, hk, hcc⟩, hb⟩; have HB3 := Aside0.mk hb; have HK3 := Aside0.mk hk; have HC3 := Aside0.mk hcc; clear hb hk hcc))
  go_ret
  exact ⟨A, c, cmp xs, rfl, HK3.out, HC3.out, cmp_asc _ HA.out, fun a => (cmp_mem a xs).trans HP.out.mem_iff, below_step (below_alloc (Below.refl _ w) _) HB3.out⟩
end Go.Proofs.Ytpljnkfbcgdafaa.P
