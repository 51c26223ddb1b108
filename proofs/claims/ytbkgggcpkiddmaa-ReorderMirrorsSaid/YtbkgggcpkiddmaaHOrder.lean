/- reorder.Order: slices.ContainsFunc over the levels, and the inner function's call. -/
import Derived.Test.YtbkgggcpkiddmaaHLay
import Derived.Laws.EntriesVeiled
namespace Go.Proofs.Ytbkgggcpkiddmaa.P
open Go.RowKit Go.Shelf Go.Proofs.YtbkgggcpkiddmaaW.PrintWords Go.Proofs.YtbkgggcpkiddmaaW.PrintLast Go.Proofs.YtbkgggcpkiddmaaW.PrintMore
set_option linter.unusedVariables false
set_option linter.unusedSimpArgs false

def bad (x : Int) : Bool := decide (x < 0) || decide (127 < x)
def idxI (p : Int → Bool) : List Int → Int → Int
  | [], _ => -1
  | x :: r, i => if p x = true then i else idxI p r (i + 1)
theorem idxI_at (p : Int → Bool) (l : List Int) (i : Nat) (h : i < l.length) : idxI p (l.drop i) i = if p (rd l i) = true then (i : Int) else idxI p (l.drop (i + 1)) (i + 1) := by
  rw [List.drop_eq_getElem_cons h]
  have e : rd l (i : Int) = l[i] := by
    unfold rd
    simp [List.getD_eq_getElem?_getD, List.getElem?_eq_getElem h]
  rw [e]
  rfl
theorem idxI_any (p : Int → Bool) : ∀ (l : List Int) (i : Int), 0 ≤ i → decide (0 ≤ idxI p l i) = l.any p
  | [], i, _ => by simp [idxI]
  | x :: r, i, h => by
    unfold idxI
    by_cases hp : p x = true
    · simp [hp, h]
    · simp [hp, idxI_any p r (i + 1) (by omega)]
theorem idxI_calls (g : Nat) (p : Int → Bool) (hp : ∀ (x : Int) (w : World), Calls Try.prog g #[.int .i64 x] w fun e w' => e = .returned (.bool (p x)) ∧ Below w.heap.size w w')
    (eg : ∀ args w, (callFunc g args).run Try.prog w = .ok (.enter g args) w) (A0 : Option Addr) (c0 : Nat) (l0 : List Int) (w : World) (hr0 : Kd.C (Kd.int .i64) w A0 l0.length l0) (hc0 : l0.length ≤ c0) (hl : l0.length < 9223372036854775807) :
    Calls Try.prog 23 #[.slice A0 l0.length c0, .func (.func g) #[] #[]] w fun e w' => e = .returned (.int .i64 (idxI p l0 0)) ∧ Below w.heap.size w w' := by
  have HR0 := Aside0.mk hr0
  have HC0 := Aside0.mk hc0
  have HL := Aside0.mk hl
  have HP := Aside0.mk hp
  clear hr0 hc0 hl hp
  go_enter Try.func23, Try.ntmps23
  go_wp2
  go_loopg [5, 8] l0.length (fun kq v5 v8 w' => ∃ (i : Nat), v8 = .int .i64 (i : Int) ∧ Aside0 (i + kq = l0.length) ∧ Aside0 (idxI p (l0.drop i) i = idxI p l0 0) ∧ Aside0 (Below w.heap.size w w'))
  case atStart => exact ⟨0, rfl, ⟨by omega⟩, ⟨rfl⟩, ⟨Below.refl _ _⟩⟩
  case round =>
    obtain ⟨i, rfl, HI, HX, HB⟩ := hrel
    by_cases c : (i : Int) < (l0.length : Int)
    · have hi : i < l0.length := by omega
      have hx := HX.out
      rw [idxI_at p l0 i hi] at hx
      obtain ⟨ad, e, hx0⟩ := Kd.at_int (Kd.C_below HR0.out HB.out) (i : Int) (by omega) c
      cases e
      simp only [Int.toNat_natCast] at hx0
      have cb : decide ((i : Int) < (l0.length : Int)) = true := decide_eq_true c
      have q0 : decide ((0 : Int) ≤ (i : Int)) = true := decide_eq_true (by omega)
      have hin := HP.out (rd l0 i) wr
      go_wp2_with fail
      refine hin.mono ?_
      rintro e w' ⟨rfl, hb⟩
      by_cases hp : p (rd l0 i) = true
      · rw [hp]
        rw [if_pos hp] at hx
        go_wp2
        go_ret
        exact ⟨rfl, below_step HB.out hb⟩
      · have hp' : p (rd l0 i) = false := by simpa using hp
        rw [hp']
        rw [if_neg hp] at hx
        go_wp2
        go_roundg (gk - 1)
        case measure => have := HI.out; omega
        case rel => exact ⟨i + 1, by (have hw : wrap64 ((i : Int) + 1) = ((i + 1 : Nat) : Int) := by unfold wrap64; have := HL.out; omega); rw [hw], ⟨by have := HI.out; omega⟩, ⟨hx⟩, ⟨below_step HB.out hb⟩⟩
    · have hx := HX.out
      have hd : l0.drop i = [] := List.drop_eq_nil_of_le (by omega)
      rw [hd] at hx
      have cb : decide ((i : Int) < (l0.length : Int)) = false := decide_eq_false c
      go_wp2
      go_ret
      exact ⟨by rw [← hx]; rfl, HB.out⟩
theorem hasI_calls (g : Nat) (p : Int → Bool) (hp : ∀ (x : Int) (w : World), Calls Try.prog g #[.int .i64 x] w fun e w' => e = .returned (.bool (p x)) ∧ Below w.heap.size w w')
    (eg : ∀ args w, (callFunc g args).run Try.prog w = .ok (.enter g args) w) (A0 : Option Addr) (c0 : Nat) (l0 : List Int) (w : World) (hr0 : Kd.C (Kd.int .i64) w A0 l0.length l0) (hc0 : l0.length ≤ c0) (hl : l0.length < 9223372036854775807) :
    Calls Try.prog 17 #[.slice A0 l0.length c0, .func (.func g) #[] #[]] w fun e w' => e = .returned (.bool (l0.any p)) ∧ Below w.heap.size w w' := by
  have hi := idxI_calls g p hp eg A0 c0 l0 w hr0 hc0 hl
  clear hp hr0 hc0 hl
  go_enter Try.func17, Try.ntmps17
  go_wp2_with fail
  refine hi.mono ?_
  rintro e w' ⟨rfl, hb⟩
  go_wp2
  go_ret
  exact ⟨by rw [← idxI_any p l0 0 (by omega)]; rfl, hb⟩
theorem bad_calls (x : Int) (w : World) : Calls Try.prog 18 #[.int .i64 x] w fun e w' => e = .returned (.bool (bad x)) ∧ Below w.heap.size w w' := by
  go_enter Try.func18, Try.ntmps18
  by_cases h1 : x < 0
  · go_wp2
    go_ret
    exact ⟨by simp [bad, h1], Below.refl _ _⟩
  · by_cases h2 : 127 < x
    · go_wp2
      go_ret
      exact ⟨by simp [bad, h2], Below.refl _ _⟩
    · go_wp2
      go_ret
      exact ⟨by simp [bad]; omega, Below.refl _ _⟩
def reorder_Order.f (l : List Int) : Option (List Int × Int) := if l.length * 8 ≤ 140737488351232 then (if l.any bad = true then some ([], 81) else some (layL l (l.length + 128) 0 l.length 0, 0)) else none
attribute [local go_sem] Oper.semAt_some
theorem ord_state (w w1 : World) (v : Value) (hb1 : Below (w.alloc (.cells #[v] 22)).heap.size (w.alloc (.cells #[v] 22)) w1) :
    St w w1.heap.size w.heap.size (w1.heap.size + 1) v (vlay w1.heap.size w.heap.size (w1.heap.size + 1)) ((w1.alloc (.cells #[.slice none 0 0] 22)).alloc (.cells #[vlay w1.heap.size w.heap.size (w1.heap.size + 1)] 35)) (.slice none 0 0) [] ∧ w.heap.size < w1.heap.size ∧ w1.cell? ⟨w.heap.size, 0, none⟩ = some v := by
  have hL : Boxed ((w1.alloc (.cells #[.slice none 0 0] 22)).alloc (.cells #[vlay w1.heap.size w.heap.size (w1.heap.size + 1)] 35)) (w1.heap.size + 1) 35 (vlay w1.heap.size w.heap.size (w1.heap.size + 1)) := by
    have := Boxed.new (w1.alloc (.cells #[.slice none 0 0] 22)) 35 (vlay w1.heap.size w.heap.size (w1.heap.size + 1))
    rw [World.size_alloc] at this
    exact this
  have hO : Boxed ((w1.alloc (.cells #[.slice none 0 0] 22)).alloc (.cells #[vlay w1.heap.size w.heap.size (w1.heap.size + 1)] 35)) w1.heap.size 22 (.slice none 0 0) := (Boxed.new w1 22 (.slice none 0 0)).alloc _
  have hlt : w.heap.size < w1.heap.size := by have := hb1.size; simp at this; omega
  have h1 : Boxed w1 w.heap.size 22 v := blk_below (Boxed.new w 22 v) hb1
  have h2 := below_step (below_alloc (Below.refl _ w) (.cells #[v] 22)) hb1
  exact ⟨⟨below_alloc (below_alloc h2 _) _, hO, (h1.alloc _).alloc _, hL, Kd.R_nil _ _ _ _ _⟩, hlt, h1.cell⟩
set_option maxHeartbeats 8000000 in
set_option maxRecDepth 100000 in
theorem reorder_Order.calls (A0 : Option Addr) (c0 : Nat) (l0 : List Int) (r1 : List Int) (r2 : Int) (w : World) (hr0 : Kd.C (Kd.int .i64) w A0 l0.length l0) (hc0 : l0.length ≤ c0) (h : reorder_Order.f l0 = some (r1, r2)) :
    Calls Try.prog 9 #[.slice A0 l0.length c0] w fun e w' => ∃ v0_ : Value, e = .returned (.tuple #[v0_, .int .i64 r2]) ∧ Kd.R (Kd.int .i64) 3 w' w.heap.size (fun _ => True) v0_ r1 ∧ Below w.heap.size w w' := by
  unfold reorder_Order.f at h
  by_cases hl : l0.length * 8 ≤ 140737488351232
  case neg => rw [if_neg hl] at h; cases h
  rw [if_pos hl] at h
  have HC := Aside0.mk (hasI_calls 18 bad bad_calls (enters_of Try.func18 (by kernel_rfl) rfl) A0 c0 l0 (w.alloc (.cells #[.slice A0 l0.length c0] 22)) (Kd.C_alloc hr0 _) hc0 (by omega))
  have HL := Aside0.mk hl
  clear hl
  by_cases hb : l0.any bad = true
  · rw [if_pos hb] at h
    cases h
    rw [hb] at HC
    go_enter Try.func9, Try.ntmps9
    go_wp2_with (go_at_call 17; refine HC.out.mono ?_; rintro e w1 ⟨rfl, hb1⟩)
    go_ret2
    exact ⟨_, rfl, Kd.R_nil _ _ _ _ _, below_step (below_alloc (Below.refl _ _) _) hb1⟩
  · rw [if_neg hb] at h
    cases h
    have hbf : l0.any bad = false := by simpa using hb
    rw [hbf] at HC
    have hall : ∀ j : Nat, j < l0.length → 0 ≤ rd l0 (j : Int) ∧ rd l0 (j : Int) ≤ 127 := fun j hj => by
      have e : rd l0 (j : Int) = l0[j] := by unfold rd; simp [List.getD_eq_getElem?_getD, hj]
      have := List.any_eq_false.1 hbf l0[j] (List.getElem_mem hj)
      unfold bad at this
      rw [e]
      simp at this
      omega
    have H127 : Aside0 (∀ j : Nat, j < l0.length → rd l0 (j : Int) ≤ 127) := ⟨fun j hj => (hall j hj).2⟩
    have H0 : Aside0 (∀ j : Nat, 0 ≤ j → j < l0.length → ((0 : Nat) : Int) ≤ rd l0 (j : Int)) := ⟨fun j _ hj => (hall j hj).1⟩
    clear hall hb hbf
    go_enter Try.func9, Try.ntmps9
    go_wp2_with (first | (go_at_call 17; refine HC.out.mono ?_; rintro e w1 ⟨rfl, hb1⟩; obtain ⟨hst, hlt, m1⟩ := ord_state w w1 (.slice A0 l0.length c0) hb1; have HST := Aside0.mk hst; have HLT := Aside0.mk hlt; have m2 := hst.bB.cell; have m3 := hst.bL.cell; dsimp only [vlay, pt] at m2 m3; clear hst hb1 hlt) | (go_at_call 19; refine (lay_calls w A0 c0 l0 w1.heap.size w.heap.size (w1.heap.size + 1) (by have := HLT.out; omega) (by have := HLT.out; omega) (by omega) hr0 HL.out H127.out (l0.length + 128) 0 l0.length 0 _ (.slice none 0 0) [] (by omega) (Nat.le_refl _) (by omega) H0.out (fun h => by omega) (.inl (by omega)) (by simp) HST.out).mono ?_; rintro e w5 ⟨rfl, v5, hs5⟩; have m5 := hs5.bO.cell; have HS5 := Aside0.mk hs5; clear hs5))
    go_ret2
    exact ⟨v5, rfl, HS5.out.row, HS5.out.bel⟩
end Go.Proofs.Ytbkgggcpkiddmaa.P
