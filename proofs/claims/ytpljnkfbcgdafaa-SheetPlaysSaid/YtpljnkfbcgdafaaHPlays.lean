/- The document's Owners. What the law SheetPlays asks of both sheets. The walk of the law SheetPlays. -/
import Derived.Test.YtpljnkfbcgdafaaHRef
import Derived.Test.YtpljnkfbcgdafaaHRClear
import Derived.Test.YtpljnkfbcgdafaaHJoint2
import Derived.Test.YtpljnkfbcgdafaaHAlive
import Derived.Test.YtpljnkfbcgdafaaHOwners
import Derived.Test.YtpljnkfbcgdafaaP47
import Derived.Test.YtpljnkfbcgdafaaHAct

namespace Go.Proofs.Ytpljnkfbcgdafaa.P
open Go.RowKit Go.Shelf Go.Proofs.YtpljnkfbcgdafaaW.PrintWords Go.Proofs.YtpljnkfbcgdafaaW.PrintLast Go.Proofs.YtpljnkfbcgdafaaW.PrintMore
set_option linter.unusedVariables false
set_option linter.unusedSimpArgs false

theorem info3' : (Try.prog.info? 3).map (fun i => (i.zero, i.size, i.bytes)) = some (some (.int .i64 0), 1, 8) := by kernel_rfl
/-- The next owner. -/
def nxS (last n : Int) (h : S59) : Int := if last < h.f1 ∧ h.f1 < n then h.f1 else n
theorem nx_char (last : Int) : ∀ (l : List S59) (s : Int), l.foldl (nxS last) s ≤ s ∧ (l.foldl (nxS last) s = s ∨ ∃ h ∈ l, last < h.f1 ∧ h.f1 = l.foldl (nxS last) s) ∧ ∀ h ∈ l, last < h.f1 → l.foldl (nxS last) s ≤ h.f1
  | [], s => ⟨Int.le_refl _, .inl rfl, fun _ h => by cases h⟩
  | q :: r, s => by
    rw [List.foldl_cons]
    obtain ⟨h1, h2, h3⟩ := nx_char last r (nxS last s q)
    generalize r.foldl (nxS last) (nxS last s q) = n at *
    unfold nxS at h1 h2
    by_cases c : last < q.f1 ∧ q.f1 < s
    · rw [if_pos c] at h1 h2
      refine ⟨by omega, .inr ?_, fun h hm hl => ?_⟩
      · rcases h2 with h2 | ⟨h, hm, h4⟩
        · exact ⟨q, List.mem_cons_self .., c.1, h2.symm⟩
        · exact ⟨h, List.mem_cons_of_mem _ hm, h4⟩
      · rcases List.mem_cons.1 hm with rfl | hm
        · exact h1
        · exact h3 h hm hl
    · rw [if_neg c] at h1 h2
      refine ⟨h1, ?_, fun h hm hl => ?_⟩
      · rcases h2 with h2 | ⟨h, hm, h4⟩
        · exact .inl h2
        · exact .inr ⟨h, List.mem_cons_of_mem _ hm, h4⟩
      · rcases List.mem_cons.1 hm with rfl | hm
        · omega
        · exact h3 h hm hl
/-- The owners up to one. -/
structure OwI (l : List S59) (last : Int) (o : List Int) : Prop where
  asc : o.Pairwise (fun a b => a < b)
  mem : ∀ a, a ∈ o ↔ (∃ h ∈ l, h.f1 = a) ∧ a ≤ last
  len : (o.length : Int) ≤ last
theorem OwI.start {l : List S59} (hl : ∀ h ∈ l, 1 ≤ h.f1 ∧ h.f1 ≤ 1048576) : OwI l 0 [] :=
  ⟨List.Pairwise.nil, fun a => ⟨fun h => (by cases h), fun ⟨⟨h, hm, ha⟩, h2⟩ => absurd (hl h hm) (by omega)⟩, Int.le_refl _⟩
theorem OwI.next {l : List S59} {last : Int} {o : List Int} (h : OwI l last o) (hn : l.foldl (nxS last) 1048577 ≤ 1048576) : last < l.foldl (nxS last) 1048577 ∧ OwI l (l.foldl (nxS last) 1048577) (o ++ [l.foldl (nxS last) 1048577]) := by
  obtain ⟨h1, h2, h3⟩ := nx_char last l 1048577
  generalize l.foldl (nxS last) 1048577 = n at *
  rcases h2 with h2 | ⟨q, hq, hl, he⟩
  · omega
  · have hln : last < n := by omega
    refine ⟨hln, ⟨?_, ?_, ?_⟩⟩
    · refine List.pairwise_append.2 ⟨h.asc, List.pairwise_singleton _ _, fun a ha b hb => ?_⟩
      rw [List.mem_singleton.1 hb]
      have := ((h.mem a).1 ha).2
      omega
    · intro a
      rw [List.mem_append, List.mem_singleton, h.mem]
      constructor
      · rintro (⟨h4, h5⟩ | rfl)
        · exact ⟨h4, by omega⟩
        · exact ⟨⟨q, hq, he⟩, Int.le_refl _⟩
      · rintro ⟨⟨x, hx, rfl⟩, h5⟩
        by_cases c : x.f1 ≤ last
        · exact .inl ⟨⟨x, hx, rfl⟩, c⟩
        · have := h3 x hx (by omega)
          exact .inr (by omega)
    · rw [List.length_append, List.length_singleton]
      have := h.len
      omega
theorem nx_done {l : List S59} {last : Int} (hl : ∀ h ∈ l, 1 ≤ h.f1 ∧ h.f1 ≤ 1048576) (hn : ¬ l.foldl (nxS last) 1048577 ≤ 1048576) : ∀ h ∈ l, h.f1 ≤ last := by
  intro h hm
  have h3 := (nx_char last l 1048577).2.2 h hm
  have := hl h hm
  omega
set_option maxHeartbeats 8000000 in
set_option maxRecDepth 100000 in
theorem ROwners.calls (g : Nat) (W H : Int) (l : List S59) (w : World) (h : RSh w g W H l) (hl : l.length ≤ 1000000) (ho : ∀ h ∈ l, 1 ≤ h.f1 ∧ h.f1 ≤ 1048576) :
    Calls Try.prog 17 #[.pointer (some ⟨g, 0, none⟩)] w fun e w' => ∃ (A : Option Addr) (c : Nat) (o : List Int), e = .returned (.slice A o.length c) ∧ Kd.C (Kd.int .i64) w' A o.length o ∧ o.length ≤ c ∧ o.Pairwise (fun a b => a < b) ∧ (∀ a, a ∈ o ↔ ∃ h ∈ l, h.f1 = a) ∧ Below w.heap.size w w' := by
  have hu32 := Try.underlying32
  have hu55 := Try.underlying55
  have hu59 := Try.underlying59
  have HW := Aside0.mk h
  have HL := Aside0.mk hl
  have HO := Aside0.mk ho
  obtain ⟨M, hM⟩ : ∃ M : Nat, M = 1048577 := ⟨_, rfl⟩
  have HM := Aside0.mk hM
  clear h hl ho hM
  go_enter Try.func17, Try.ntmps17
  go_wp2
  go_loopg [3, 4, 5] M (fun kq v3 v4 v5 wr => ∃ (last : Int) (o : List Int) (Av : Option Addr) (cv : Nat) (b : Bool), v3 = .slice Av o.length cv ∧ v4 = .int .i64 last ∧ v5 = .bool b ∧ Aside0 (0 ≤ last ∧ last ≤ 1048576 ∧ 1048576 - last + (if b = true then 1 else 0) ≤ (kq : Int)) ∧ Aside0 (OwI l last o) ∧ Aside0 (b = false → ∀ h ∈ l, h.f1 ≤ last) ∧ Aside0 (Kd.R (Kd.int .i64) 3 wr w.heap.size (fun _ => True) (.slice Av o.length cv) o) ∧ Aside0 (Below w.heap.size w wr))
  case atStart => exact ⟨0, [], none, 0, true, rfl, rfl, rfl, ⟨by have := HM.out; simp; omega⟩, ⟨OwI.start HO.out⟩, ⟨fun h => by cases h⟩, ⟨Kd.R_nil _ _ _ _ _⟩, ⟨Below.refl _ _⟩⟩
  case round =>
    obtain ⟨last, o, Av, cv, b, rfl, rfl, rfl, HK, HOI, HD, HR, HB⟩ := hrel
    cases b with
    | true =>
      obtain ⟨d, rfl⟩ : ∃ d, gk = d + 1 := ⟨gk - 1, by have := HK.out; simp at this; omega⟩
      clear HD
      go_wp2
      go_loopg [6, 7] l.length (fun kq v6 v7 ws => ∃ (i : Nat), v6 = .int .i64 ((l.take i).foldl (nxS last) 1048577) ∧ v7 = .int .i64 (i : Int) ∧ ws = wr ∧ Aside0 (i + kq = l.length))
      case atStart => exact ⟨0, rfl, rfl, rfl, ⟨by omega⟩⟩
      case round =>
        obtain ⟨i, rfl, rfl, rfl, HI⟩ := hrel
        obtain ⟨A, c, hg, hC, hc⟩ := HW.out.below HB.out
        have c2 := cI hg 2 (v := .slice A l.length c) rfl
        obtain ⟨n, hn⟩ : ∃ n, (l.take i).foldl (nxS last) 1048577 = n := ⟨_, rfl⟩
        have HN := Aside0.mk hn
        rw [hn]
        clear hn
        by_cases ci : i < l.length
        · have cb : decide (i < l.length) = true := decide_eq_true ci
          have cl : (i < l.length) = True := eq_true ci
          obtain ⟨d2, rfl⟩ : ∃ d2, gk = d2 + 1 := ⟨gk - 1, by have := HI.out; omega⟩
          obtain ⟨ad, ea, x0, x1, x2, x3, x4⟩ := at_T59 hC (i : Int) (by omega) (by omega)
          subst ea
          simp only [Int.toNat_natCast] at x0 x1 x2 x3 x4
          have HFS : Aside0 ((l.take (i + 1)).foldl (nxS last) 1048577 = nxS last n (rd_T59 l (i : Int))) := ⟨by
            have e : rd_T59 l (i : Int) = l[i] := by unfold rd_T59; simp [List.getD_eq_getElem?_getD, List.getElem?_eq_getElem ci]
            rw [List.take_succ_eq_append_getElem ci, List.foldl_append, HN.out, e]; rfl⟩
          obtain ⟨q, hq⟩ : ∃ q, rd_T59 l (i : Int) = q := ⟨_, rfl⟩
          have HWI := Aside0.mk (show wrap64 ((i : Int) + 1) = ((i + 1 : Nat) : Int) by have := HL.out; unfold wrap64; omega)
          rw [hq] at x0 x1 x2 x3 x4 HFS
          clear hq hg hC hc ci
          by_cases k1 : last < q.f1
          · have g1 : decide (last < q.f1) = true := decide_eq_true k1
            by_cases k2 : q.f1 < n
            · have g2 : decide (q.f1 < n) = true := decide_eq_true k2
              have HX := Aside0.mk (show nxS last n q = q.f1 from if_pos ⟨k1, k2⟩)
              clear k1 k2
              go_wp2
              go_roundg d2
              case measure => have := HI.out; omega
              case rel => exact ⟨i + 1, by rw [HFS.out, HX.out], by rw [HWI.out], rfl, ⟨by have := HI.out; omega⟩⟩
            · have g2 : decide (q.f1 < n) = false := decide_eq_false k2
              have HX := Aside0.mk (show nxS last n q = n from if_neg (fun h => k2 h.2))
              clear k1 k2
              go_wp2
              go_roundg d2
              case measure => have := HI.out; omega
              case rel => exact ⟨i + 1, by rw [HFS.out, HX.out], by rw [HWI.out], rfl, ⟨by have := HI.out; omega⟩⟩
          · have g1 : decide (last < q.f1) = false := decide_eq_false k1
            have HX := Aside0.mk (show nxS last n q = n from if_neg (fun h => k1 h.1))
            clear k1
            go_wp2
            go_roundg d2
            case measure => have := HI.out; omega
            case rel => exact ⟨i + 1, by rw [HFS.out, HX.out], by rw [HWI.out], rfl, ⟨by have := HI.out; omega⟩⟩
        · have cb : decide (i < l.length) = false := decide_eq_false ci
          have cl : (i < l.length) = False := eq_false ci
          have hii : i = l.length := by have := HI.out; omega
          have hf := HN.out
          rw [hii, List.take_length] at hf
          subst hf
          clear hii HN hg hC hc ci
          by_cases k1 : l.foldl (nxS last) 1048577 ≤ 1048576
          · have g1 : decide (l.foldl (nxS last) 1048577 ≤ 1048576) = true := decide_eq_true k1
            obtain ⟨h1, h2⟩ := HOI.out.next k1
            have HLT := Aside0.mk (And.intro h1 k1)
            have HOI2 := Aside0.mk h2
            have HLEN := Aside0.mk (show o.length ≤ 1048576 by have := HOI.out.len; have := HK.out.2.1; omega)
            clear h1 h2 k1
            go_wp2_with ((with_reducible refine gate_builtin (b := .append) (xs := #[.tmp 51, .tmp 53]) rfl ?_); at_builtin; refine Kd.R_append (Kd.int .i64) (w0 := w) w.heap.size rfl (.tmp 51) (.tmp 53) 40 3 (.int .i64 0) 8 rfl Try.underlying40 info3' rfl (by decide) (by omega) (.slice Av o.length cv) o (l.foldl (nxS last) 1048577) [.int .i64 (l.foldl (nxS last) 1048577)] (fun _ => True) (fun _ => False) rfl rfl rfl (fun _ hk => hk.elim) (fun _ _ => trivial) HR.out HB.out HB.out.size (by have := HLEN.out; omega) ?_; intro v3 w3 ho hb _ _; obtain ⟨A3, c3, e3⟩ := Kd.R_slice ho; have e4 : v3 = .slice A3 (o.length + 1) c3 := (by rw [e3]; simp); subst e4; clear e3; have HR3 := Aside0.mk ho; have HB3 := Aside0.mk hb; clear ho hb)
            go_roundg d
            case measure => omega
            case rel => exact ⟨l.foldl (nxS last) 1048577, o ++ [l.foldl (nxS last) 1048577], A3, c3, true, by simp, rfl, rfl, ⟨by have h1 := HLT.out; have h2 := HK.out; simp at h2 ⊢; omega⟩, HOI2, ⟨fun h => by cases h⟩, ⟨by have := HR3.out; simpa using this⟩, HB3⟩
          · have g1 : decide (l.foldl (nxS last) 1048577 ≤ 1048576) = false := decide_eq_false k1
            have HD := Aside0.mk (nx_done HO.out k1)
            clear k1
            go_wp2
            go_roundg d
            case measure => omega
            case rel => exact ⟨last, o, Av, cv, false, rfl, rfl, rfl, ⟨by have h2 := HK.out; simp at h2 ⊢; omega⟩, HOI, ⟨fun _ => HD.out⟩, HR, HB⟩
    | false =>
      have hrr := Kd.R_reads' HR.out
      have HRD := Aside0.mk hrr.2.2
      have HRC := Aside0.mk (show o.length ≤ cv by have := hrr.2.1; simpa using this)
      clear hrr
      go_wp2
      go_ret
      exact ⟨Av, cv, o, rfl, HRD.out, HRC.out, HOI.out.asc, fun a => ⟨fun ha => ((HOI.out.mem a).1 ha).1, fun ⟨h, hm, he⟩ => (HOI.out.mem a).2 ⟨⟨h, hm, he⟩, he ▸ HD.out (by first | trivial | rfl) h hm⟩⟩, HB.out⟩
end Go.Proofs.Ytpljnkfbcgdafaa.P

namespace Go.Proofs.Ytpljnkfbcgdafaa.P
open Go.RowKit Go.Shelf Go.Proofs.YtpljnkfbcgdafaaW.PrintWords Go.Proofs.YtpljnkfbcgdafaaW.PrintLast Go.Proofs.YtpljnkfbcgdafaaW.PrintMore
set_option linter.unusedVariables false
set_option linter.unusedSimpArgs false

theorem asc_ext : ∀ (a b : List Int), a.Pairwise (fun x y => x < y) → b.Pairwise (fun x y => x < y) → (∀ x, x ∈ a ↔ x ∈ b) → a = b
  | [], [], _, _, _ => rfl
  | [], y :: s, _, _, h => absurd ((h y).2 (List.mem_cons_self ..)) (by simp)
  | x :: r, [], _, _, h => absurd ((h x).1 (List.mem_cons_self ..)) (by simp)
  | x :: r, y :: s, ha, hb, h => by
    obtain ⟨a1, a2⟩ := List.pairwise_cons.1 ha
    obtain ⟨b1, b2⟩ := List.pairwise_cons.1 hb
    have hxy : x = y := by
      rcases List.mem_cons.1 ((h x).1 (List.mem_cons_self ..)) with h1 | h1
      · exact h1
      · rcases List.mem_cons.1 ((h y).2 (List.mem_cons_self ..)) with h2 | h2
        · exact h2.symm
        · have := a1 y h2
          have := b1 x h1
          omega
    subst hxy
    congr 1
    refine asc_ext r s a2 b2 fun z => ?_
    constructor
    · intro hz
      rcases List.mem_cons.1 ((h z).1 (List.mem_cons_of_mem _ hz)) with h1 | h1
      · have := a1 z hz; omega
      · exact h1
    · intro hz
      rcases List.mem_cons.1 ((h z).2 (List.mem_cons_of_mem _ hz)) with h1 | h1
      · have := b1 z hz; omega
      · exact h1
theorem own_mem {W H : Int} (hs : Sd W H) {l : List S59} (hl : OkL W H l) (a : Int) : a ∈ valsE (cellsL l) ↔ ∃ h ∈ l, h.f1 = a := by
  constructor
  · intro ha
    obtain ⟨e, he, rfl⟩ := List.mem_map.1 ha
    obtain ⟨h, hm, he⟩ := List.mem_flatMap.1 he
    exact ⟨h, hm, (cellsH_own he).symm⟩
  · rintro ⟨h, hm, rfl⟩
    have hx := (hl h hm).x
    have hy := (hl h hm).y
    obtain ⟨e, he, _⟩ := (mem_cellsH hs (hl h hm) h.f0.f0 h.f0.f1).2 (by omega)
    exact List.mem_map.2 ⟨e, List.mem_flatMap.2 ⟨h, hm, he⟩, cellsH_own he⟩
set_option maxHeartbeats 2000000 in
set_option maxRecDepth 100000 in
theorem RNew_no.calls (W H : Int) (w : World) (hWH : (sideB W && sideB H) = false) :
    Calls Try.prog 8 #[.int .i64 W, .int .i64 H] w fun e w' => e = .returned (.tuple #[.pointer none, .int .i64 201]) ∧ Below w.heap.size w w' := by
  have hu55 := Try.underlying55
  have hb : ¬ ((1 ≤ W ∧ W ≤ 60) ∧ 1 ≤ H ∧ H ≤ 60) := by
    intro h
    rw [Bool.eq_false_iff] at hWH
    apply hWH
    simp only [sideB, Bool.and_eq_true, decide_eq_true_eq]
    exact h
  clear hWH
  by_cases c1 : W < 1
  · have b1 : decide (W < 1) = true := decide_eq_true c1
    clear hb c1
    go_enter Try.func8, Try.ntmps8
    go_wp2
    go_ret2
    exact ⟨rfl, Below.refl _ _⟩
  · have b1 : decide (W < 1) = false := decide_eq_false c1
    by_cases c2 : 60 < W
    · have b2 : decide (60 < W) = true := decide_eq_true c2
      clear hb c1 c2
      go_enter Try.func8, Try.ntmps8
      go_wp2
      go_ret2
      exact ⟨rfl, Below.refl _ _⟩
    · have b2 : decide (60 < W) = false := decide_eq_false c2
      by_cases c3 : H < 1
      · have b3 : decide (H < 1) = true := decide_eq_true c3
        clear hb c1 c2 c3
        go_enter Try.func8, Try.ntmps8
        go_wp2
        go_ret2
        exact ⟨rfl, Below.refl _ _⟩
      · have b3 : decide (H < 1) = false := decide_eq_false c3
        have b4 : decide (60 < H) = true := decide_eq_true (by omega)
        clear hb c1 c2 c3
        go_enter Try.func8, Try.ntmps8
        go_wp2
        go_ret2
        exact ⟨rfl, Below.refl _ _⟩
/-- Area, as the document says. -/
theorem AreaJ.calls (p mb : Nat) (W H : Int) (l : List S59) (ow : Int) (w : World) (hs : Sd W H) (h : Sh w p mb W H (cellsL l)) (hl : OkL W H l) (hn : l.length ≤ 60) :
    Calls Try.prog 11 #[.pointer (some ⟨p, 0, none⟩), .int .i64 ow] w fun e w' => e = .returned (raR (l.foldl (raS ow) ⟨0, 0, 0, 0, 0⟩)) ∧ Below w.heap.size w w' := by
  have hs0 := hs
  unfold Sd at hs0
  by_cases ho : 1 ≤ ow
  · refine (Area.calls p mb W H _ ow w h ho (fun e he => by have := cellsL_in hs hl he; omega) (by have := len_cellsL hs l hl; omega)).mono ?_
    rintro e w' ⟨done, hp, rfl, hb⟩
    rw [ar_perm ow hp, area_eq hs ow hl hn]
    exact ⟨rfl, hb⟩
  · have e0 : ∀ (r : List S59) (b : Ra), (∀ q ∈ r, q.f1 ≠ ow) → r.foldl (raS ow) b = b := by
      intro r
      induction r with
      | nil => intro b _; rfl
      | cons q r ih =>
        intro b hq
        rw [List.foldl_cons]
        have : raS ow b q = b := by unfold raS; rw [if_neg (hq q (List.mem_cons_self ..))]
        rw [this]
        exact ih b fun x hx => hq x (List.mem_cons_of_mem _ hx)
    rw [e0 l _ fun q hq => by have := (hl q hq).o; omega]
    exact Area_low.calls _ ow w (by omega)
theorem FreeJ.calls (p mb : Nat) (W H : Int) (l : List S59) (w : World) (hs : Sd W H) (h : Sh w p mb W H (cellsL l)) (hl : OkL W H l) (hn : l.length ≤ 60) :
    Calls Try.prog 13 #[.pointer (some ⟨p, 0, none⟩)] w fun e w' => e = .returned (.int .i64 (l.foldl frS (wrap64 (W * H)))) ∧ Below w.heap.size w w' := by
  refine (Free.calls p mb W H _ w h).mono ?_
  rintro e w' ⟨rfl, q, rfl⟩
  rw [free_eq hs hl hn]
  exact ⟨rfl, pw_below_drewN (Below.refl _ _) q⟩
theorem OwnersJ.calls (p mb : Nat) (W H : Int) (l : List S59) (w : World) (hs : Sd W H) (h : Sh w p mb W H (cellsL l)) (hl : OkL W H l) (hn : l.length ≤ 60) :
    Calls Try.prog 16 #[.pointer (some ⟨p, 0, none⟩)] w fun e w' => ∃ (A : Option Addr) (c : Nat) (o : List Int), e = .returned (.slice A o.length c) ∧ Kd.C (Kd.int .i64) w' A o.length o ∧ o.length ≤ c ∧ o.Pairwise (fun a b => a < b) ∧ (∀ a, a ∈ o ↔ ∃ h ∈ l, h.f1 = a) ∧ Below w.heap.size w w' := by
  refine (Owners.calls p mb W H _ w h (by have := len_cellsL hs l hl; omega)).mono ?_
  rintro e w' ⟨A, c, o, he, hk, hc, ha, hm, hb⟩
  exact ⟨A, c, o, he, hk, hc, ha, fun a => (hm a).trans (own_mem hs hl a), hb⟩
theorem AtJ.calls (p mb : Nat) (W H : Int) (l : List S59) (x y : Int) (w : World) (hs : Sd W H) (h : Sh w p mb W H (cellsL l)) (hl : OkL W H l) (hx : inK x) (hy : inK y) :
    Calls Try.prog 18 #[.pointer (some ⟨p, 0, none⟩), .int .i64 x, .int .i64 y] w fun e w' => e = .returned (.int .i64 (rAt W H l x y)) ∧ Below w.heap.size w w' := by
  refine (At.calls p mb W H _ x y w h hx hy).mono ?_
  rintro e w' ⟨rfl, rfl⟩
  rw [val_rAt hs hl]
  exact ⟨rfl, Below.refl _ _⟩
end Go.Proofs.Ytpljnkfbcgdafaa.P

namespace Go.Proofs.Ytpljnkfbcgdafaa.P
open Go.RowKit Go.Shelf Go.Proofs.YtpljnkfbcgdafaaW.PrintWords Go.Proofs.YtpljnkfbcgdafaaW.PrintLast Go.Proofs.YtpljnkfbcgdafaaW.PrintMore
set_option linter.unusedVariables false
set_option linter.unusedSimpArgs false

theorem eqI (x : Int) (w : World) : (Op.equalIn 9999 3 (.int .i64 x) (.int .i64 x)).run Try.prog w = .ok true w := by
  have hu3 := Try.underlying3
  go_simp
theorem eq32s (a b c d : Int) (w : World) : (binOp .eql 32 (.agg #[.int .i64 a, .int .i64 b, .int .i64 c, .int .i64 d]) (.agg #[.int .i64 a, .int .i64 b, .int .i64 c, .int .i64 d])).run Try.prog w = .ok (.bool true) w := by
  have hu32 := Try.underlying32
  have hu3 := Try.underlying3
  simp only [binOp]
  simp only [Op.equal, Op.maxDepth, Sem.run_bind]
  rw [eqA_of (r := true) Try.underlying32 (by kernel_rfl) ?_]
  · rfl
  · have p0 : (part 3 #[.int .i64 a, .int .i64 b, .int .i64 c, .int .i64 d] 0).run Try.prog w = .ok (.int .i64 a) w := by go_simp
    have p1 : (part 3 #[.int .i64 a, .int .i64 b, .int .i64 c, .int .i64 d] 1).run Try.prog w = .ok (.int .i64 b) w := by go_simp
    have p2 : (part 3 #[.int .i64 a, .int .i64 b, .int .i64 c, .int .i64 d] 2).run Try.prog w = .ok (.int .i64 c) w := by go_simp
    have p3 : (part 3 #[.int .i64 a, .int .i64 b, .int .i64 c, .int .i64 d] 3).run Try.prog w = .ok (.int .i64 d) w := by go_simp
    have h3 := eqf_last (f := { name := "H", type := 3, offset := 3, embedded := false, tag := "", pkgPath := "", byteOffset := 24 }) rfl p3 p3 (eqI d w)
    have h2 := eqf_cons (f := { name := "W", type := 3, offset := 2, embedded := false, tag := "", pkgPath := "", byteOffset := 16 }) rfl p2 p2 (eqI c w) h3
    have h1 := eqf_cons (f := { name := "Y", type := 3, offset := 1, embedded := false, tag := "", pkgPath := "", byteOffset := 8 }) rfl p1 p1 (eqI b w) h2
    exact eqf_cons (f := { name := "X", type := 3, offset := 0, embedded := false, tag := "", pkgPath := "", byteOffset := 0 }) rfl p0 p0 (eqI a w) h1
theorem ne32s (a b c d : Int) (w : World) : (binOp .neq 32 (.agg #[.int .i64 a, .int .i64 b, .int .i64 c, .int .i64 d]) (.agg #[.int .i64 a, .int .i64 b, .int .i64 c, .int .i64 d])).run Try.prog w = .ok (.bool false) w := by
  have h := eq32s a b c d w
  simp only [binOp] at h ⊢
  simp only [Sem.run_bind] at h ⊢
  revert h
  cases hq : (Op.equal 32 (.agg #[.int .i64 a, .int .i64 b, .int .i64 c, .int .i64 d]) (.agg #[.int .i64 a, .int .i64 b, .int .i64 c, .int .i64 d])).run Try.prog w <;> intro h <;> simp_all
theorem AreaK.calls (a : Ra) (p mb : Nat) (W H : Int) (l : List S59) (ow : Int) (w : World) (ha : l.foldl (raS ow) ⟨0, 0, 0, 0, 0⟩ = a) (hs : Sd W H) (h : Sh w p mb W H (cellsL l)) (hl : OkL W H l) (hn : l.length ≤ 60) :
    Calls Try.prog 11 #[.pointer (some ⟨p, 0, none⟩), .int .i64 ow] w fun e w' => e = .returned (.tuple #[.int .i64 a.n, .agg #[.int .i64 a.x, .int .i64 a.y, .int .i64 a.W, .int .i64 a.H]]) ∧ Below w.heap.size w w' := by
  subst ha
  exact AreaJ.calls p mb W H l ow w hs h hl hn
theorem RAreaK.calls (a : Ra) (g : Nat) (W H : Int) (l : List S59) (ow : Int) (w : World) (ha : l.foldl (raS ow) ⟨0, 0, 0, 0, 0⟩ = a) (h : RSh w g W H l) (hn : l.length ≤ 60) :
    Calls Try.prog 12 #[.pointer (some ⟨g, 0, none⟩), .int .i64 ow] w fun e w' => e = .returned (.tuple #[.int .i64 a.n, .agg #[.int .i64 a.x, .int .i64 a.y, .int .i64 a.W, .int .i64 a.H]]) ∧ Below w.heap.size w w' := by
  subst ha
  exact RArea.calls g W H l ow w h (by omega)
theorem rd34_mem (l : List S34) (i : Nat) (h : i < l.length) : rd_T34 l (i : Int) ∈ l := by
  unfold rd_T34
  rw [Int.toNat_natCast, List.getD_eq_getElem?_getD, List.getElem?_eq_getElem h]
  exact List.getElem_mem h
theorem own_lenJ {W H : Int} (hs : Sd W H) {l : List S59} (hl : OkL W H l) (hn : l.length ≤ 60) {o : List Int} (ha : o.Pairwise (fun a b => a < b)) (hm : ∀ a, a ∈ o ↔ ∃ h ∈ l, h.f1 = a) : o.length ≤ 1000000 := by
  have h1 := sumC_all o (cellsL l) ha (fun a => (hm a).trans (own_mem hs hl a).symm)
  have h2 : ∀ r : List Int, (∀ a ∈ r, a ∈ valsE (cellsL l)) → r.length ≤ sumC (cellsL l) r := by
    intro r
    induction r with
    | nil => intro _; exact Nat.zero_le _
    | cons a r ih =>
      intro h
      have h3 := ih fun b hb => h b (List.mem_cons_of_mem _ hb)
      obtain ⟨e, m, v⟩ := List.mem_map.1 (h a (List.mem_cons_self ..))
      have h4 : 1 ≤ cntE a (cellsL l) := by
        unfold cntE
        exact List.length_pos_of_mem (List.mem_filter.2 ⟨m, by simpa using v⟩)
      have h5 : sumC (cellsL l) (a :: r) = cntE a (cellsL l) + sumC (cellsL l) r := by simp [sumC]
      rw [h5, List.length_cons]
      omega
  have h3 := h2 o fun a hx => (own_mem hs hl a).2 ((hm a).1 hx)
  have h4 := len_cellsL hs l hl
  omega
set_option maxHeartbeats 4000000 in
set_option maxRecDepth 100000 in
/-- Sides that may not be. -/
theorem SheetPlays_no.calls (W H : Int) (v : Value) (w : World) (hb : (sideB W && sideB H) = false) :
    Calls Try.prog 3 #[.int .i64 W, .int .i64 H, v] w fun e w' => e = .returned (.bool true) ∧ Below w.heap.size w w' := by
  have HN := Aside0.mk hb
  clear hb
  go_enter Try.func3, Try.ntmps3
  go_wp2_with (first
    | (go_at_call 7; refine (New_no.calls W H _ HN.out).mono ?_; rintro e w1 ⟨rfl, rfl⟩)
    | (go_at_call 8; refine (RNew_no.calls W H _ HN.out).mono ?_; rintro e w2 ⟨rfl, hb2⟩; have HB2 := Aside0.mk hb2; clear hb2)
    | (go_at_call 9; refine (frisketlaw20_alive.calls true _ rfl).mono ?_; rintro e w3 ⟨rfl, hb3⟩; have HB3 := Aside0.mk (below_step HB2.out hb3); clear hb3))
  go_ret
  exact ⟨rfl, HB3.out⟩
set_option maxHeartbeats 16000000 in
set_option maxRecDepth 100000 in
theorem frisketlaw20_SheetPlays.calls (W H : Int) (A0 : Option Addr) (c0 : Nat) (l0 : List S34) (w : World) (hC : Kd.C k34 w A0 l0.length l0) (hl : l0.length * 48 ≤ 140737488351232) (hk : ∀ x ∈ l0, inK x.f1.f0 ∧ inK x.f1.f1) :
    Calls Try.prog 3 #[.int .i64 W, .int .i64 H, .slice A0 l0.length c0] w fun e w' => e = .returned (.bool true) ∧ Below w.heap.size w w' := by
  by_cases hsb : (sideB W && sideB H) = false
  · exact SheetPlays_no.calls W H _ w hsb
  have hu32 := Try.underlying32
  have hu34 := Try.underlying34
  have HL := Aside0.mk hl
  have HK := Aside0.mk hk
  have HC := Aside0.mk hC
  have hsd : sideB W = true ∧ sideB H = true := by
    rw [Bool.not_eq_false, Bool.and_eq_true] at hsb
    exact hsb
  have HSD := Aside0.mk hsd
  have HSS := Aside0.mk (show Sd W H by
    obtain ⟨h1, h2⟩ := hsd
    simp only [sideB, Bool.and_eq_true, decide_eq_true_eq] at h1 h2
    unfold Sd
    omega)
  have HWH := Aside0.mk (show 1 ≤ W ∧ W ≤ 60 ∧ 1 ≤ H ∧ H ≤ 60 from HSS.out)
  clear hsb hsd hC hl hk
  go_enter Try.func3, Try.ntmps3
  go_wp2_with (first
    | (go_at_call 7; refine (New.calls W H w HSD.out.1 HSD.out.2).mono ?_; rintro e w2 ⟨p, mb, rfl, hs, hp, hmb, hb⟩; have HS := Aside0.mk hs; have HPM := Aside0.mk (And.intro hp hmb); have HBN := Aside0.mk hb; clear hs hp hmb hb)
    | (go_at_call 8; refine (RNew.calls W H w2 (by have := HWH.out; omega) (by have := HWH.out; omega)).mono ?_; rintro e w3 ⟨g, rfl, hr, hg, hb⟩; have HR := Aside0.mk hr; have HG := Aside0.mk hg; have HBR := Aside0.mk hb; clear hr hg hb))
  have HT := Aside0.mk (show Jn w.heap.size w3 p mb g W H 0 [] from ⟨HS.out.below HBR.out, HR.out, OkL.nil, Nat.le_refl _, ⟨HPM.out.1, HPM.out.2, Nat.le_trans HBN.out.size HG.out, Nat.le_trans HBN.out.size HBR.out.size⟩⟩)
  have HBL := Aside0.mk (HBN.out.trans (HBR.out.mono HBN.out.size))
  clear HS HPM HBN HR HG HBR HSD
  go_loopg [11] (min l0.length 60) (fun kq v11 wr => ∃ (i : Nat) (l : List S59), v11 = .int .i64 (i : Int) ∧ Aside0 (i + kq = min l0.length 60) ∧ Aside0 (Jn w.heap.size wr p mb g W H i l) ∧ Aside0 (Below w.heap.size w wr))
  case atStart => exact ⟨0, [], rfl, ⟨by omega⟩, HT, HBL⟩
  case round =>
    clear HT HBL
    obtain ⟨i, l, rfl, HI, HT, HBL⟩ := hrel
    by_cases ci : i < l0.length
    · have cb : decide (i < l0.length) = true := decide_eq_true ci
      have cb3 : decide ((i : Int) < (l0.length : Int)) = true := decide_eq_true (by omega)
      have cl : (i < l0.length) = True := eq_true ci
      by_cases c6 : i < 60
      · have d6 : decide ((i : Int) < 60) = true := decide_eq_true (by omega)
        have e6 : decide (i < 60) = true := decide_eq_true c6
        have f6 : (i < 60) = True := eq_true c6
        obtain ⟨d, rfl⟩ : ∃ d, gk = d + 1 := ⟨gk - 1, by have := HI.out; omega⟩
        obtain ⟨ad, ea, x0, x1, x2, x3, x4, x5⟩ := at_T34 (Kd.C_below HC.out HBL.out) (i : Int) (by omega) (by omega)
        subst ea
        simp only [Int.toNat_natCast] at x0 x1 x2 x3 x4 x5
        have HKQ := Aside0.mk (HK.out _ (rd34_mem l0 i ci))
        obtain ⟨q, hq⟩ : ∃ q, rd_T34 l0 (i : Int) = q := ⟨_, rfl⟩
        have HWI := Aside0.mk (show wrap64 ((i : Int) + 1) = ((i + 1 : Nat) : Int) by unfold wrap64; omega)
        have H60 := Aside0.mk (show i < 60 by omega)
        rw [hq] at x0 x1 x2 x3 x4 x5 HKQ
        clear hq ci c6
        go_upto_region 9 with (fail)
        obtain ⟨VA, hVA⟩ : ∃ VA, wr.alloc (.cells #[.bool q.f0, .int .i64 q.f1.f0, .int .i64 q.f1.f1, .int .i64 q.f1.f2, .int .i64 q.f1.f3, .int .i64 q.f2] 34) = VA := ⟨_, rfl⟩
        have ha1 := blk_new wr (.cells #[.bool q.f0, .int .i64 q.f1.f0, .int .i64 q.f1.f1, .int .i64 q.f1.f2, .int .i64 q.f1.f3, .int .i64 q.f2] 34)
        have hba := below_alloc (Below.refl wr.heap.size wr) (.cells #[.bool q.f0, .int .i64 q.f1.f0, .int .i64 q.f1.f1, .int .i64 q.f1.f2, .int .i64 q.f1.f3, .int .i64 q.f2] 34)
        rw [hVA] at ha1 hba ⊢
        clear hVA x0 x1 x2 x3 x4 x5
        have HTA := Aside0.mk (HT.out.below hba)
        have HBA := Aside0.mk (HBL.out.trans (hba.mono HBL.out.size))
        have HQA := Aside0.mk ha1
        have HKA := Aside0.mk (show wr.heap.size ≠ mb ∧ wr.heap.size ≠ g ∧ wr.heap.size < VA.heap.size from ⟨by have := HT.out.s.own.lt; omega, by have := HT.out.r.lt; omega, blk_lt ha1⟩)
        have y0 := cI ha1 0 (v := .bool q.f0) rfl
        have y1 := cI ha1 1 (v := .int .i64 q.f1.f0) rfl
        have y2 := cI ha1 2 (v := .int .i64 q.f1.f1) rfl
        have y3 := cI ha1 3 (v := .int .i64 q.f1.f2) rfl
        have y4 := cI ha1 4 (v := .int .i64 q.f1.f3) rfl
        have y5 := cI ha1 5 (v := .int .i64 q.f2) rfl
        clear ha1 hba
        go_upto_region 10 with (go_at_call 10; refine (doJ.calls w.heap.size p mb g W H i l q.f0 q.f1.f0 q.f1.f1 q.f1.f2 q.f1.f3 q.f2 VA HSS.out HTA.out (Nat.le_of_lt H60.out)).mono ?_; rintro e w4 ⟨l', rfl, ht, hb, hkp⟩; have HT4 := Aside0.mk ht; have HB4 := Aside0.mk (HBA.out.trans hb); have hq4 := (hkp wr.heap.size HKA.out.2.2 HKA.out.1 HKA.out.2.1).trans HQA.out; have HQ4 := Aside0.mk hq4; clear ht hb hkp hq4)
        obtain ⟨a, ha⟩ : ∃ a, l'.foldl (raS q.f2) ⟨0, 0, 0, 0, 0⟩ = a := ⟨_, rfl⟩
        have HA := Aside0.mk ha
        have HLN := Aside0.mk (show l'.length ≤ 60 by have := HT4.out.len; have := H60.out; omega)
        clear ha y0 y1 y2 y3 y4 y5
        have y5 := cI HQ4.out 5 (v := .int .i64 q.f2) rfl
        go_upto_region 11 with (go_at_call 11; refine (AreaK.calls a p mb W H l' q.f2 w4 HA.out HSS.out HT4.out.s HT4.out.ok HLN.out).mono ?_; rintro e w5 ⟨rfl, hb⟩; have HB5 := Aside0.mk hb; clear hb)
        obtain ⟨V5, hV5⟩ : ∃ V5, w5.alloc (.cells #[.int .i64 a.x, .int .i64 a.y, .int .i64 a.W, .int .i64 a.H] 32) = V5 := ⟨_, rfl⟩
        have hr5 := blk_new w5 (.cells #[.int .i64 a.x, .int .i64 a.y, .int .i64 a.W, .int .i64 a.H] 32)
        have hb5 : Below w4.heap.size w4 (w5.alloc (.cells #[.int .i64 a.x, .int .i64 a.y, .int .i64 a.W, .int .i64 a.H] 32)) := HB5.out.alloc HB5.out.size _
        rw [hV5] at hr5 hb5 ⊢
        have HR5 := Aside0.mk hr5
        have HT5 := Aside0.mk (HT4.out.below hb5)
        have HQ5 := Aside0.mk (blk_below HQ4.out hb5)
        have HBX := Aside0.mk (HB4.out.trans (hb5.mono HT4.out.b.2.2.2))
        clear hV5 hr5 hb5 y5
        have y5 := cI HQ5.out 5 (v := .int .i64 q.f2) rfl
        go_upto_region 12 with (go_at_call 12; refine (RAreaK.calls a g W H l' q.f2 V5 HA.out HT5.out.r HLN.out).mono ?_; rintro e w6 ⟨rfl, hb⟩; have HB6 := Aside0.mk hb; clear hb)
        obtain ⟨V6, hV6⟩ : ∃ V6, w6.alloc (.cells #[.int .i64 a.x, .int .i64 a.y, .int .i64 a.W, .int .i64 a.H] 32) = V6 := ⟨_, rfl⟩
        have hr6 := blk_new w6 (.cells #[.int .i64 a.x, .int .i64 a.y, .int .i64 a.W, .int .i64 a.H] 32)
        have hb6 : Below V5.heap.size V5 (w6.alloc (.cells #[.int .i64 a.x, .int .i64 a.y, .int .i64 a.W, .int .i64 a.H] 32)) := HB6.out.alloc HB6.out.size _
        rw [hV6] at hr6 hb6 ⊢
        have HR6 := Aside0.mk hr6
        have HR56 := Aside0.mk (blk_below HR5.out hb6)
        have HT6 := Aside0.mk (HT5.out.below hb6)
        have HQ6 := Aside0.mk (blk_below HQ5.out hb6)
        have HBY := Aside0.mk (HBX.out.trans (hb6.mono HT5.out.b.2.2.2))
        clear hV6 hr6 hb6 y5
        have hne := ne32s a.x a.y a.W a.H
        refine start_ (n := 46) (S := fun w' => Below V6.heap.size V6 w') (ds := []) #[false, false, false, false, false, false, false, false, false, false, false, false, false, false, false, false, false, false, false, false, false, false, false, false, false, false, false, false, false, false, false, false, false, false, false, false, false, false, false, false, false, false, false, false, false, false] (by kernel_rfl) rfl rfl (below_drew1 (Below.refl V6.heap.size V6)) (fun hHeld0 => ?_)
        have hHeld : Below V6.heap.size V6 V6.drew := hHeld0
        clear hHeld0
        refine pure_ (i := 0) (N := some 85) (v := ?_) (a' := ?_) #[true, false, false, false, false, false, false, false, false, false, false, false, false, false, false, false, false, false, false, false, false, false, false, false, false, false, false, false, false, false, false, false, false, false, false, false, false, false, false, false, false, false, false, false, false, false] rfl rfl (by kernel_rfl) (fun _ _ _ h => h) (Or.inl ⟨by rfl, ?_⟩) ?_ ?_
        rotate_left
        · intro w'
          go_simp
          with_reducible rfl
        rotate_left
        · simp only [Act.put, List.setIfInBounds_toArray, List.set_cons_zero, List.set_cons_succ, i64_w, i32_w]
          rfl
        refine pure_ (i := 1) (N := some 86) (v := ?_) (a' := ?_) #[true, true, false, false, false, false, false, false, false, false, false, false, false, false, false, false, false, false, false, false, false, false, false, false, false, false, false, false, false, false, false, false, false, false, false, false, false, false, false, false, false, false, false, false, false, false] rfl rfl (by kernel_rfl) (fun _ _ _ h => h) (Or.inl ⟨by rfl, ?_⟩) ?_ ?_
        rotate_left
        · intro w'
          go_simp
          with_reducible rfl
        rotate_left
        · simp only [Act.put, List.setIfInBounds_toArray, List.set_cons_zero, List.set_cons_succ, i64_w, i32_w]
          rfl
        refine pure_ (i := 2) (N := some 87) (v := ?_) (a' := ?_) #[true, true, true, false, false, false, false, false, false, false, false, false, false, false, false, false, false, false, false, false, false, false, false, false, false, false, false, false, false, false, false, false, false, false, false, false, false, false, false, false, false, false, false, false, false, false] rfl rfl (by kernel_rfl) (fun _ _ _ h => h) (Or.inl ⟨by rfl, ?_⟩) ?_ ?_
        rotate_left
        · intro w'
          go_simp
          with_reducible rfl
        rotate_left
        · simp only [Act.put, List.setIfInBounds_toArray, List.set_cons_zero, List.set_cons_succ, i64_w, i32_w]
          rfl
        refine pure_ (i := 3) (N := some 88) (v := ?_) (a' := ?_) #[true, true, true, true, false, false, false, false, false, false, false, false, false, false, false, false, false, false, false, false, false, false, false, false, false, false, false, false, false, false, false, false, false, false, false, false, false, false, false, false, false, false, false, false, false, false] rfl rfl (by kernel_rfl) (fun _ _ _ h => h) (Or.inl ⟨by rfl, ?_⟩) ?_ ?_
        rotate_left
        · intro w'
          go_simp
          with_reducible rfl
        rotate_left
        · simp only [Act.put, List.setIfInBounds_toArray, List.set_cons_zero, List.set_cons_succ, i64_w, i32_w]
          rfl
        refine pure_ (i := 4) (N := some 89) (v := ?_) (a' := ?_) #[true, true, true, true, true, false, false, false, false, false, false, false, false, false, false, false, false, false, false, false, false, false, false, false, false, false, false, false, false, false, false, false, false, false, false, false, false, false, false, false, false, false, false, false, false, false] rfl rfl (by kernel_rfl) (fun _ _ _ h => h) (Or.inl ⟨by rfl, ?_⟩) ?_ ?_
        rotate_left
        · intro w'
          go_simp
          with_reducible rfl
        rotate_left
        · simp only [Act.put, List.setIfInBounds_toArray, List.set_cons_zero, List.set_cons_succ, i64_w, i32_w]
          rfl
        refine pure_ (i := 5) (N := some 90) (v := ?_) (a' := ?_) #[true, true, true, true, true, true, false, false, false, false, false, false, false, false, false, false, false, false, false, false, false, false, false, false, false, false, false, false, false, false, false, false, false, false, false, false, false, false, false, false, false, false, false, false, false, false] rfl rfl (by kernel_rfl) (fun _ _ _ h => h) (Or.inl ⟨by rfl, ?_⟩) ?_ ?_
        rotate_left
        · intro w'
          go_simp
          try rw [bne_self_eq_false]
          try with_reducible rfl
        rotate_left
        · simp only [Act.put, List.setIfInBounds_toArray, List.set_cons_zero, List.set_cons_succ, i64_w, i32_w]
          rfl
        refine pure_ (i := 6) (N := some 91) (v := ?_) (a' := ?_) #[true, true, true, true, true, true, true, false, false, false, false, false, false, false, false, false, false, false, false, false, false, false, false, false, false, false, false, false, false, false, false, false, false, false, false, false, false, false, false, false, false, false, false, false, false, false] rfl rfl (by kernel_rfl) (fun _ _ _ h => h) (Or.inl ⟨by rfl, ?_⟩) ?_ ?_
        rotate_left
        · intro w'
          go_simp
          with_reducible rfl
        rotate_left
        · simp only [Act.put, List.setIfInBounds_toArray, List.set_cons_zero, List.set_cons_succ, i64_w, i32_w]
          rfl
        refine pure_ (i := 7) (N := some 92) (v := ?_) (a' := ?_) #[true, true, true, true, true, true, true, true, false, false, false, false, false, false, false, false, false, false, false, false, false, false, false, false, false, false, false, false, false, false, false, false, false, false, false, false, false, false, false, false, false, false, false, false, false, false] rfl rfl (by kernel_rfl) (fun _ _ _ h => h) (Or.inl ⟨by rfl, ?_⟩) ?_ ?_
        rotate_left
        · intro w'
          go_simp
          with_reducible rfl
        rotate_left
        · simp only [Act.put, List.setIfInBounds_toArray, List.set_cons_zero, List.set_cons_succ, i64_w, i32_w]
          rfl
        refine take_ (i := 8) (N := some 93) (v := ?_) (a' := ?_) #[true, true, true, true, true, true, true, true, true, false, false, false, false, false, false, false, false, false, false, false, false, false, false, false, false, false, false, false, false, false, false, false, false, false, false, false, false, false, false, false, false, false, false, false, false, false] rfl rfl (by kernel_rfl) (fun _ _ _ h => h) (Or.inl ⟨by rfl, ?_⟩) hHeld ?_ ?_
        rotate_left
        · intro w' hb0
          have hb' : Below V6.heap.size V6 w' := hb0
          have f0 := cI (blk_below HR56.out hb') 0 (v := .int .i64 a.x) rfl
          have f1 := cI (blk_below HR56.out hb') 1 (v := .int .i64 a.y) rfl
          have f2 := cI (blk_below HR56.out hb') 2 (v := .int .i64 a.W) rfl
          have f3 := cI (blk_below HR56.out hb') 3 (v := .int .i64 a.H) rfl
          go_simp
          with_reducible rfl
        rotate_left
        · simp only [Act.put, List.setIfInBounds_toArray, List.set_cons_zero, List.set_cons_succ, i64_w, i32_w]
          rfl
        refine take_ (i := 9) (N := some 94) (v := ?_) (a' := ?_) #[true, true, true, true, true, true, true, true, true, true, false, false, false, false, false, false, false, false, false, false, false, false, false, false, false, false, false, false, false, false, false, false, false, false, false, false, false, false, false, false, false, false, false, false, false, false] rfl rfl (by kernel_rfl) (fun _ _ _ h => h) (Or.inl ⟨by rfl, ?_⟩) hHeld ?_ ?_
        rotate_left
        · intro w' hb0
          have hb' : Below V6.heap.size V6 w' := hb0
          have f0 := cI (blk_below HR6.out hb') 0 (v := .int .i64 a.x) rfl
          have f1 := cI (blk_below HR6.out hb') 1 (v := .int .i64 a.y) rfl
          have f2 := cI (blk_below HR6.out hb') 2 (v := .int .i64 a.W) rfl
          have f3 := cI (blk_below HR6.out hb') 3 (v := .int .i64 a.H) rfl
          go_simp
          with_reducible rfl
        rotate_left
        · simp only [Act.put, List.setIfInBounds_toArray, List.set_cons_zero, List.set_cons_succ, i64_w, i32_w]
          rfl
        refine pure_ (i := 10) (N := some 95) (v := ?_) (a' := ?_) #[true, true, true, true, true, true, true, true, true, true, true, false, false, false, false, false, false, false, false, false, false, false, false, false, false, false, false, false, false, false, false, false, false, false, false, false, false, false, false, false, false, false, false, false, false, false] rfl rfl (by kernel_rfl) (fun _ _ _ h => h) (Or.inl ⟨by rfl, ?_⟩) ?_ ?_
        rotate_left
        · intro w'
          go_simp
          with_reducible rfl
        rotate_left
        · simp only [Act.put, List.setIfInBounds_toArray, List.set_cons_zero, List.set_cons_succ, i64_w, i32_w]
          rfl
        refine pure_ (i := 11) (N := some 96) (v := ?_) (a' := ?_) #[true, true, true, true, true, true, true, true, true, true, true, true, false, false, false, false, false, false, false, false, false, false, false, false, false, false, false, false, false, false, false, false, false, false, false, false, false, false, false, false, false, false, false, false, false, false] rfl rfl (by kernel_rfl) (fun _ _ _ h => h) (Or.inl ⟨by rfl, ?_⟩) ?_ ?_
        rotate_left
        · intro w'
          go_simp
          with_reducible rfl
        rotate_left
        · simp only [Act.put, List.setIfInBounds_toArray, List.set_cons_zero, List.set_cons_succ, i64_w, i32_w]
          rfl
        refine pure_ (i := 12) (N := some 97) (v := ?_) (a' := ?_) #[true, true, true, true, true, true, true, true, true, true, true, true, true, false, false, false, false, false, false, false, false, false, false, false, false, false, false, false, false, false, false, false, false, false, false, false, false, false, false, false, false, false, false, false, false, false] rfl rfl (by kernel_rfl) (fun _ _ _ h => h) (Or.inl ⟨by rfl, ?_⟩) ?_ ?_
        rotate_left
        · intro w'
          go_simp
          with_reducible rfl
        rotate_left
        · simp only [Act.put, List.setIfInBounds_toArray, List.set_cons_zero, List.set_cons_succ, i64_w, i32_w]
          rfl
        refine pure_ (i := 13) (N := some 98) (v := ?_) (a' := ?_) #[true, true, true, true, true, true, true, true, true, true, true, true, true, true, false, false, false, false, false, false, false, false, false, false, false, false, false, false, false, false, false, false, false, false, false, false, false, false, false, false, false, false, false, false, false, false] rfl rfl (by kernel_rfl) (fun _ _ _ h => h) (Or.inl ⟨by rfl, ?_⟩) ?_ ?_
        rotate_left
        · intro w'
          go_simp
          with_reducible rfl
        rotate_left
        · simp only [Act.put, List.setIfInBounds_toArray, List.set_cons_zero, List.set_cons_succ, i64_w, i32_w]
          rfl
        refine pure_ (i := 15) (N := some 100) (v := ?_) (a' := ?_) #[true, true, true, true, true, true, true, true, true, true, true, true, true, true, false, true, false, false, false, false, false, false, false, false, false, false, false, false, false, false, false, false, false, false, false, false, false, false, false, false, false, false, false, false, false, false] rfl rfl (by kernel_rfl) (fun _ _ _ h => h) (Or.inl ⟨by rfl, ?_⟩) ?_ ?_
        rotate_left
        · intro w'
          go_simp
          with_reducible rfl
        rotate_left
        · simp only [Act.put, List.setIfInBounds_toArray, List.set_cons_zero, List.set_cons_succ, i64_w, i32_w]
          rfl
        refine one_ (i := 14) (N := some 99) #[true, true, true, true, true, true, true, true, true, true, true, true, true, true, true, true, false, false, false, false, false, false, false, false, false, false, false, false, false, false, false, false, false, false, false, false, false, false, false, false, false, false, false, false, false, false] rfl rfl (by kernel_rfl) (by decide) (fun K hK => ?_)
        refine goes_ Try.func13 (by kernel_rfl) rfl #[.pointer (some ⟨p, 0, none⟩)] (by rfl) rfl rfl (by (try simp only [List.map_toArray, List.map_cons, List.map_nil]); first | done | rfl) ?_
        refine (FreeJ.calls p mb W H l' _ HSS.out (HT6.out.s.below hHeld) HT6.out.ok HLN.out).mono ?_
        rintro e wa ⟨rfl, hb⟩
        refine ⟨_, rfl, ?_⟩
        have hS2 : Below V6.heap.size V6 wa := hHeld.trans (hb.mono hHeld.size)
        refine hK.out _ _ hS2 (fun _ => ?_)
        clear hK K
        simp only [Act.put, List.getElem_toArray, List.getElem_cons_succ, List.getElem_cons_zero, List.setIfInBounds_toArray, List.set_cons_zero, List.set_cons_succ]
        clear hHeld hb
        have hHeld := hS2
        clear hS2
        refine one_ (i := 16) (N := some 101) #[true, true, true, true, true, true, true, true, true, true, true, true, true, true, true, true, true, false, false, false, false, false, false, false, false, false, false, false, false, false, false, false, false, false, false, false, false, false, false, false, false, false, false, false, false, false] rfl rfl (by kernel_rfl) (by decide) (fun K hK => ?_)
        refine goes_ Try.func14 (by kernel_rfl) rfl #[.pointer (some ⟨g, 0, none⟩)] (by rfl) rfl rfl (by (try simp only [List.map_toArray, List.map_cons, List.map_nil]); first | done | rfl) ?_
        refine (RFree.calls g W H l' _ (HT6.out.r.below hHeld) (by have := HLN.out; omega)).mono ?_
        rintro e wb ⟨rfl, hb⟩
        refine ⟨_, rfl, ?_⟩
        have hS2 : Below V6.heap.size V6 wb := hHeld.trans (hb.mono hHeld.size)
        refine hK.out _ _ hS2 (fun _ => ?_)
        clear hK K
        simp only [Act.put, List.getElem_toArray, List.getElem_cons_succ, List.getElem_cons_zero, List.setIfInBounds_toArray, List.set_cons_zero, List.set_cons_succ]
        clear hHeld hb
        have hHeld := hS2
        clear hS2
        refine pure_ (i := 17) (N := some 102) (v := ?_) (a' := ?_) #[true, true, true, true, true, true, true, true, true, true, true, true, true, true, true, true, true, true, false, false, false, false, false, false, false, false, false, false, false, false, false, false, false, false, false, false, false, false, false, false, false, false, false, false, false, false] rfl rfl (by kernel_rfl) (fun _ _ _ h => h) (Or.inl ⟨by rfl, ?_⟩) ?_ ?_
        rotate_left
        · intro w'
          go_simp
          try rw [bne_self_eq_false]
          try with_reducible rfl
        rotate_left
        · simp only [Act.put, List.setIfInBounds_toArray, List.set_cons_zero, List.set_cons_succ, i64_w, i32_w]
          rfl
        refine pure_ (i := 18) (N := some 103) (v := ?_) (a' := ?_) #[true, true, true, true, true, true, true, true, true, true, true, true, true, true, true, true, true, true, true, false, false, false, false, false, false, false, false, false, false, false, false, false, false, false, false, false, false, false, false, false, false, false, false, false, false, false] rfl rfl (by kernel_rfl) (fun _ _ _ h => h) (Or.inl ⟨by rfl, ?_⟩) ?_ ?_
        rotate_left
        · intro w'
          go_simp
          with_reducible rfl
        rotate_left
        · simp only [Act.put, List.setIfInBounds_toArray, List.set_cons_zero, List.set_cons_succ, i64_w, i32_w]
          rfl
        refine pure_ (i := 19) (N := some 104) (v := ?_) (a' := ?_) #[true, true, true, true, true, true, true, true, true, true, true, true, true, true, true, true, true, true, true, true, false, false, false, false, false, false, false, false, false, false, false, false, false, false, false, false, false, false, false, false, false, false, false, false, false, false] rfl rfl (by kernel_rfl) (fun _ _ _ h => h) (Or.inl ⟨by rfl, ?_⟩) ?_ ?_
        rotate_left
        · intro w'
          go_simp
          with_reducible rfl
        rotate_left
        · simp only [Act.put, List.setIfInBounds_toArray, List.set_cons_zero, List.set_cons_succ, i64_w, i32_w]
          rfl
        refine pure_ (i := 20) (N := some 105) (v := ?_) (a' := ?_) #[true, true, true, true, true, true, true, true, true, true, true, true, true, true, true, true, true, true, true, true, true, false, false, false, false, false, false, false, false, false, false, false, false, false, false, false, false, false, false, false, false, false, false, false, false, false] rfl rfl (by kernel_rfl) (fun _ _ _ h => h) (Or.inl ⟨by rfl, ?_⟩) ?_ ?_
        rotate_left
        · intro w'
          go_simp
          with_reducible rfl
        rotate_left
        · simp only [Act.put, List.setIfInBounds_toArray, List.set_cons_zero, List.set_cons_succ, i64_w, i32_w]
          rfl
        refine pure_ (i := 22) (N := some 107) (v := ?_) (a' := ?_) #[true, true, true, true, true, true, true, true, true, true, true, true, true, true, true, true, true, true, true, true, true, false, true, false, false, false, false, false, false, false, false, false, false, false, false, false, false, false, false, false, false, false, false, false, false, false] rfl rfl (by kernel_rfl) (fun _ _ _ h => h) (Or.inl ⟨by rfl, ?_⟩) ?_ ?_
        rotate_left
        · intro w'
          go_simp
          with_reducible rfl
        rotate_left
        · simp only [Act.put, List.setIfInBounds_toArray, List.set_cons_zero, List.set_cons_succ, i64_w, i32_w]
          rfl
        refine one_ (i := 21) (N := some 106) #[true, true, true, true, true, true, true, true, true, true, true, true, true, true, true, true, true, true, true, true, true, true, true, false, false, false, false, false, false, false, false, false, false, false, false, false, false, false, false, false, false, false, false, false, false, false] rfl rfl (by kernel_rfl) (by decide) (fun K hK => ?_)
        refine goes_ Try.func16 (by kernel_rfl) rfl #[.pointer (some ⟨p, 0, none⟩)] (by rfl) rfl rfl (by (try simp only [List.map_toArray, List.map_cons, List.map_nil]); first | done | rfl) ?_
        refine (OwnersJ.calls p mb W H l' _ HSS.out (HT6.out.s.below hHeld) HT6.out.ok HLN.out).mono ?_
        rintro e wc ⟨A1, c1, o1, rfl, hk1, hc1, ha1, hm1, hb⟩
        have HK1 := Aside0.mk hk1
        have HC1 := Aside0.mk hc1
        have HA1 := Aside0.mk ha1
        have HM1 := Aside0.mk hm1
        clear hk1 hc1 ha1 hm1
        refine ⟨_, rfl, ?_⟩
        have hS2 : Below V6.heap.size V6 wc := hHeld.trans (hb.mono hHeld.size)
        refine hK.out _ _ hS2 (fun _ => ?_)
        clear hK K
        simp only [Act.put, List.getElem_toArray, List.getElem_cons_succ, List.getElem_cons_zero, List.setIfInBounds_toArray, List.set_cons_zero, List.set_cons_succ]
        clear hHeld hb
        have hHeld := hS2
        clear hS2
        refine one_ (i := 23) (N := some 108) #[true, true, true, true, true, true, true, true, true, true, true, true, true, true, true, true, true, true, true, true, true, true, true, true, false, false, false, false, false, false, false, false, false, false, false, false, false, false, false, false, false, false, false, false, false, false] rfl rfl (by kernel_rfl) (by decide) (fun K hK => ?_)
        refine goes_ Try.func17 (by kernel_rfl) rfl #[.pointer (some ⟨g, 0, none⟩)] (by rfl) rfl rfl (by (try simp only [List.map_toArray, List.map_cons, List.map_nil]); first | done | rfl) ?_
        refine (ROwners.calls g W H l' _ (HT6.out.r.below hHeld) (by have := HLN.out; omega) (fun q hq => (HT6.out.ok q hq).o)).mono ?_
        rintro e wd ⟨A2, c2, o2, rfl, hk2, hc2, ha2, hm2, hb⟩
        obtain rfl : o1 = o2 := asc_ext o1 o2 HA1.out ha2 (fun z => (HM1.out z).trans (hm2 z).symm)
        have HK3 := Aside0.mk (Kd.C_below HK1.out hb)
        have HK2 := Aside0.mk hk2
        have HC2 := Aside0.mk hc2
        clear hk2 hc2 ha2 hm2 HK1
        refine ⟨_, rfl, ?_⟩
        have hS2 : Below V6.heap.size V6 wd := hHeld.trans (hb.mono hHeld.size)
        refine hK.out _ _ hS2 (fun _ => ?_)
        clear hK K
        simp only [Act.put, List.getElem_toArray, List.getElem_cons_succ, List.getElem_cons_zero, List.setIfInBounds_toArray, List.set_cons_zero, List.set_cons_succ]
        clear hHeld hb
        have hHeld := hS2
        clear hS2
        refine one_ (i := 24) (N := some 109) #[true, true, true, true, true, true, true, true, true, true, true, true, true, true, true, true, true, true, true, true, true, true, true, true, true, false, false, false, false, false, false, false, false, false, false, false, false, false, false, false, false, false, false, false, false, false] rfl rfl (by kernel_rfl) (by decide) (fun K hK => ?_)
        refine goes_ Try.func15 (by kernel_rfl) rfl #[.slice A1 o1.length c1, .slice A2 o1.length c2] (by rfl) rfl rfl (by (try simp only [List.map_toArray, List.map_cons, List.map_nil]); first | done | rfl) ?_
        refine (frisketref01_Ints.calls (o1.length + 1) _ _ _ _ _ _ true wd HK3.out HC1.out HK2.out HC2.out (ints_f o1 (own_lenJ HSS.out HT6.out.ok HLN.out HA1.out HM1.out))).mono ?_
        rintro e we ⟨rfl, ⟨nd, rfl⟩⟩
        have hb : Below wd.heap.size wd (wd.drewN nd) := pw_below_drewN (Below.refl _ _) nd
        refine ⟨_, rfl, ?_⟩
        have hS2 : Below V6.heap.size V6 (wd.drewN nd) := hHeld.trans (hb.mono hHeld.size)
        refine hK.out _ _ hS2 (fun _ => ?_)
        clear hK K
        simp only [Act.put, List.getElem_toArray, List.getElem_cons_succ, List.getElem_cons_zero, List.setIfInBounds_toArray, List.set_cons_zero, List.set_cons_succ]
        clear hHeld hb
        have hHeld := hS2
        clear hS2
        refine pure_ (i := 25) (N := some 110) (v := ?_) (a' := ?_) #[true, true, true, true, true, true, true, true, true, true, true, true, true, true, true, true, true, true, true, true, true, true, true, true, true, true, false, false, false, false, false, false, false, false, false, false, false, false, false, false, false, false, false, false, false, false] rfl rfl (by kernel_rfl) (fun _ _ _ h => h) (Or.inl ⟨by rfl, ?_⟩) ?_ ?_
        rotate_left
        · intro w'
          go_simp
          with_reducible rfl
        rotate_left
        · simp only [Act.put, List.setIfInBounds_toArray, List.set_cons_zero, List.set_cons_succ, i64_w, i32_w]
          rfl
        refine pure_ (i := 26) (N := some 111) (v := ?_) (a' := ?_) #[true, true, true, true, true, true, true, true, true, true, true, true, true, true, true, true, true, true, true, true, true, true, true, true, true, true, true, false, false, false, false, false, false, false, false, false, false, false, false, false, false, false, false, false, false, false] rfl rfl (by kernel_rfl) (fun _ _ _ h => h) (Or.inl ⟨by rfl, ?_⟩) ?_ ?_
        rotate_left
        · intro w'
          go_simp
          with_reducible rfl
        rotate_left
        · simp only [Act.put, List.setIfInBounds_toArray, List.set_cons_zero, List.set_cons_succ, i64_w, i32_w]
          rfl
        refine pure_ (i := 27) (N := some 112) (v := ?_) (a' := ?_) #[true, true, true, true, true, true, true, true, true, true, true, true, true, true, true, true, true, true, true, true, true, true, true, true, true, true, true, true, false, false, false, false, false, false, false, false, false, false, false, false, false, false, false, false, false, false] rfl rfl (by kernel_rfl) (fun _ _ _ h => h) (Or.inl ⟨by rfl, ?_⟩) ?_ ?_
        rotate_left
        · intro w'
          go_simp
          with_reducible rfl
        rotate_left
        · simp only [Act.put, List.setIfInBounds_toArray, List.set_cons_zero, List.set_cons_succ, i64_w, i32_w]
          rfl
        refine pure_ (i := 28) (N := some 113) (v := ?_) (a' := ?_) #[true, true, true, true, true, true, true, true, true, true, true, true, true, true, true, true, true, true, true, true, true, true, true, true, true, true, true, true, true, false, false, false, false, false, false, false, false, false, false, false, false, false, false, false, false, false] rfl rfl (by kernel_rfl) (fun _ _ _ h => h) (Or.inl ⟨by rfl, ?_⟩) ?_ ?_
        rotate_left
        · intro w'
          go_simp
          with_reducible rfl
        rotate_left
        · simp only [Act.put, List.setIfInBounds_toArray, List.set_cons_zero, List.set_cons_succ, i64_w, i32_w]
          rfl
        refine pure_ (i := 29) (N := some 114) (v := ?_) (a' := ?_) #[true, true, true, true, true, true, true, true, true, true, true, true, true, true, true, true, true, true, true, true, true, true, true, true, true, true, true, true, true, true, false, false, false, false, false, false, false, false, false, false, false, false, false, false, false, false] rfl rfl (by kernel_rfl) (fun _ _ _ h => h) (Or.inl ⟨by rfl, ?_⟩) ?_ ?_
        rotate_left
        · intro w'
          go_simp
          with_reducible rfl
        rotate_left
        · simp only [Act.put, List.setIfInBounds_toArray, List.set_cons_zero, List.set_cons_succ, i64_w, i32_w]
          rfl
        refine pure_ (i := 30) (N := some 115) (v := ?_) (a' := ?_) #[true, true, true, true, true, true, true, true, true, true, true, true, true, true, true, true, true, true, true, true, true, true, true, true, true, true, true, true, true, true, true, false, false, false, false, false, false, false, false, false, false, false, false, false, false, false] rfl rfl (by kernel_rfl) (fun _ _ _ h => h) (Or.inl ⟨by rfl, ?_⟩) ?_ ?_
        rotate_left
        · intro w'
          go_simp
          with_reducible rfl
        rotate_left
        · simp only [Act.put, List.setIfInBounds_toArray, List.set_cons_zero, List.set_cons_succ, i64_w, i32_w]
          rfl
        refine pure_ (i := 32) (N := some 117) (v := ?_) (a' := ?_) #[true, true, true, true, true, true, true, true, true, true, true, true, true, true, true, true, true, true, true, true, true, true, true, true, true, true, true, true, true, true, true, false, true, false, false, false, false, false, false, false, false, false, false, false, false, false] rfl rfl (by kernel_rfl) (fun _ _ _ h => h) (Or.inl ⟨by rfl, ?_⟩) ?_ ?_
        rotate_left
        · intro w'
          go_simp
          with_reducible rfl
        rotate_left
        · simp only [Act.put, List.setIfInBounds_toArray, List.set_cons_zero, List.set_cons_succ, i64_w, i32_w]
          rfl
        refine pure_ (i := 33) (N := some 118) (v := ?_) (a' := ?_) #[true, true, true, true, true, true, true, true, true, true, true, true, true, true, true, true, true, true, true, true, true, true, true, true, true, true, true, true, true, true, true, false, true, true, false, false, false, false, false, false, false, false, false, false, false, false] rfl rfl (by kernel_rfl) (fun _ _ _ h => h) (Or.inl ⟨by rfl, ?_⟩) ?_ ?_
        rotate_left
        · intro w'
          go_simp
          with_reducible rfl
        rotate_left
        · simp only [Act.put, List.setIfInBounds_toArray, List.set_cons_zero, List.set_cons_succ, i64_w, i32_w]
          rfl
        refine pure_ (i := 36) (N := some 121) (v := ?_) (a' := ?_) #[true, true, true, true, true, true, true, true, true, true, true, true, true, true, true, true, true, true, true, true, true, true, true, true, true, true, true, true, true, true, true, false, true, true, false, false, true, false, false, false, false, false, false, false, false, false] rfl rfl (by kernel_rfl) (fun _ _ _ h => h) (Or.inl ⟨by rfl, ?_⟩) ?_ ?_
        rotate_left
        · intro w'
          go_simp
          with_reducible rfl
        rotate_left
        · simp only [Act.put, List.setIfInBounds_toArray, List.set_cons_zero, List.set_cons_succ, i64_w, i32_w]
          rfl
        refine pure_ (i := 37) (N := some 122) (v := ?_) (a' := ?_) #[true, true, true, true, true, true, true, true, true, true, true, true, true, true, true, true, true, true, true, true, true, true, true, true, true, true, true, true, true, true, true, false, true, true, false, false, true, true, false, false, false, false, false, false, false, false] rfl rfl (by kernel_rfl) (fun _ _ _ h => h) (Or.inl ⟨by rfl, ?_⟩) ?_ ?_
        rotate_left
        · intro w'
          go_simp
          with_reducible rfl
        rotate_left
        · simp only [Act.put, List.setIfInBounds_toArray, List.set_cons_zero, List.set_cons_succ, i64_w, i32_w]
          rfl
        refine pure_ (i := 38) (N := some 123) (v := ?_) (a' := ?_) #[true, true, true, true, true, true, true, true, true, true, true, true, true, true, true, true, true, true, true, true, true, true, true, true, true, true, true, true, true, true, true, false, true, true, false, false, true, true, true, false, false, false, false, false, false, false] rfl rfl (by kernel_rfl) (fun _ _ _ h => h) (Or.inl ⟨by rfl, ?_⟩) ?_ ?_
        rotate_left
        · intro w'
          go_simp
          with_reducible rfl
        rotate_left
        · simp only [Act.put, List.setIfInBounds_toArray, List.set_cons_zero, List.set_cons_succ, i64_w, i32_w]
          rfl
        refine pure_ (i := 40) (N := some 125) (v := ?_) (a' := ?_) #[true, true, true, true, true, true, true, true, true, true, true, true, true, true, true, true, true, true, true, true, true, true, true, true, true, true, true, true, true, true, true, false, true, true, false, false, true, true, true, false, true, false, false, false, false, false] rfl rfl (by kernel_rfl) (fun _ _ _ h => h) (Or.inl ⟨by rfl, ?_⟩) ?_ ?_
        rotate_left
        · intro w'
          go_simp
          with_reducible rfl
        rotate_left
        · simp only [Act.put, List.setIfInBounds_toArray, List.set_cons_zero, List.set_cons_succ, i64_w, i32_w]
          rfl
        refine pure_ (i := 41) (N := some 126) (v := ?_) (a' := ?_) #[true, true, true, true, true, true, true, true, true, true, true, true, true, true, true, true, true, true, true, true, true, true, true, true, true, true, true, true, true, true, true, false, true, true, false, false, true, true, true, false, true, true, false, false, false, false] rfl rfl (by kernel_rfl) (fun _ _ _ h => h) (Or.inl ⟨by rfl, ?_⟩) ?_ ?_
        rotate_left
        · intro w'
          go_simp
          with_reducible rfl
        rotate_left
        · simp only [Act.put, List.setIfInBounds_toArray, List.set_cons_zero, List.set_cons_succ, i64_w, i32_w]
          rfl
        refine take_ (i := 31) (N := some 116) (v := ?_) (a' := ?_) #[true, true, true, true, true, true, true, true, true, true, true, true, true, true, true, true, true, true, true, true, true, true, true, true, true, true, true, true, true, true, true, true, true, true, false, false, true, true, true, false, true, true, false, false, false, false] rfl rfl (by kernel_rfl) (fun _ _ _ h => h) (Or.inl ⟨by rfl, ?_⟩) hHeld ?_ ?_
        rotate_left
        · intro w' hb0
          have hb' : Below V6.heap.size V6 w' := hb0
          have f0 := cI (blk_below HQ6.out hb') 1 (v := .int .i64 q.f1.f0) rfl
          go_simp
          with_reducible rfl
        rotate_left
        · simp only [Act.put, List.setIfInBounds_toArray, List.set_cons_zero, List.set_cons_succ, i64_w, i32_w]
          rfl
        refine take_ (i := 34) (N := some 119) (v := ?_) (a' := ?_) #[true, true, true, true, true, true, true, true, true, true, true, true, true, true, true, true, true, true, true, true, true, true, true, true, true, true, true, true, true, true, true, true, true, true, true, false, true, true, true, false, true, true, false, false, false, false] rfl rfl (by kernel_rfl) (fun _ _ _ h => h) (Or.inl ⟨by rfl, ?_⟩) hHeld ?_ ?_
        rotate_left
        · intro w' hb0
          have hb' : Below V6.heap.size V6 w' := hb0
          have f0 := cI (blk_below HQ6.out hb') 2 (v := .int .i64 q.f1.f1) rfl
          go_simp
          with_reducible rfl
        rotate_left
        · simp only [Act.put, List.setIfInBounds_toArray, List.set_cons_zero, List.set_cons_succ, i64_w, i32_w]
          rfl
        refine take_ (i := 39) (N := some 124) (v := ?_) (a' := ?_) #[true, true, true, true, true, true, true, true, true, true, true, true, true, true, true, true, true, true, true, true, true, true, true, true, true, true, true, true, true, true, true, true, true, true, true, false, true, true, true, true, true, true, false, false, false, false] rfl rfl (by kernel_rfl) (fun _ _ _ h => h) (Or.inl ⟨by rfl, ?_⟩) hHeld ?_ ?_
        rotate_left
        · intro w' hb0
          have hb' : Below V6.heap.size V6 w' := hb0
          have f0 := cI (blk_below HQ6.out hb') 1 (v := .int .i64 q.f1.f0) rfl
          go_simp
          with_reducible rfl
        rotate_left
        · simp only [Act.put, List.setIfInBounds_toArray, List.set_cons_zero, List.set_cons_succ, i64_w, i32_w]
          rfl
        refine take_ (i := 42) (N := some 127) (v := ?_) (a' := ?_) #[true, true, true, true, true, true, true, true, true, true, true, true, true, true, true, true, true, true, true, true, true, true, true, true, true, true, true, true, true, true, true, true, true, true, true, false, true, true, true, true, true, true, true, false, false, false] rfl rfl (by kernel_rfl) (fun _ _ _ h => h) (Or.inl ⟨by rfl, ?_⟩) hHeld ?_ ?_
        rotate_left
        · intro w' hb0
          have hb' : Below V6.heap.size V6 w' := hb0
          have f0 := cI (blk_below HQ6.out hb') 2 (v := .int .i64 q.f1.f1) rfl
          go_simp
          with_reducible rfl
        rotate_left
        · simp only [Act.put, List.setIfInBounds_toArray, List.set_cons_zero, List.set_cons_succ, i64_w, i32_w]
          rfl
        refine one_ (i := 35) (N := some 120) #[true, true, true, true, true, true, true, true, true, true, true, true, true, true, true, true, true, true, true, true, true, true, true, true, true, true, true, true, true, true, true, true, true, true, true, true, true, true, true, true, true, true, true, false, false, false] rfl rfl (by kernel_rfl) (by decide) (fun K hK => ?_)
        refine goes_ Try.func18 (by kernel_rfl) rfl #[.pointer (some ⟨p, 0, none⟩), .int .i64 q.f1.f0, .int .i64 q.f1.f1] (by rfl) rfl rfl (by (try simp only [List.map_toArray, List.map_cons, List.map_nil]); first | done | rfl) ?_
        refine (AtJ.calls p mb W H l' q.f1.f0 q.f1.f1 _ HSS.out (HT6.out.s.below hHeld) HT6.out.ok HKQ.out.1 HKQ.out.2).mono ?_
        rintro e wf ⟨rfl, hb⟩
        refine ⟨_, rfl, ?_⟩
        have hS2 : Below V6.heap.size V6 wf := hHeld.trans (hb.mono hHeld.size)
        refine hK.out _ _ hS2 (fun _ => ?_)
        clear hK K
        simp only [Act.put, List.getElem_toArray, List.getElem_cons_succ, List.getElem_cons_zero, List.setIfInBounds_toArray, List.set_cons_zero, List.set_cons_succ]
        clear hHeld hb
        have hHeld := hS2
        clear hS2
        refine one_ (i := 43) (N := some 128) #[true, true, true, true, true, true, true, true, true, true, true, true, true, true, true, true, true, true, true, true, true, true, true, true, true, true, true, true, true, true, true, true, true, true, true, true, true, true, true, true, true, true, true, true, false, false] rfl rfl (by kernel_rfl) (by decide) (fun K hK => ?_)
        refine goes_ Try.func19 (by kernel_rfl) rfl #[.pointer (some ⟨g, 0, none⟩), .int .i64 q.f1.f0, .int .i64 q.f1.f1] (by rfl) rfl rfl (by (try simp only [List.map_toArray, List.map_cons, List.map_nil]); first | done | rfl) ?_
        refine (RAt.calls g W H l' q.f1.f0 q.f1.f1 _ (HT6.out.r.below hHeld) (by have := HLN.out; omega)).mono ?_
        rintro e wg ⟨rfl, hb⟩
        refine ⟨_, rfl, ?_⟩
        have hS2 : Below V6.heap.size V6 wg := hHeld.trans (hb.mono hHeld.size)
        refine hK.out _ _ hS2 (fun _ => ?_)
        clear hK K
        simp only [Act.put, List.getElem_toArray, List.getElem_cons_succ, List.getElem_cons_zero, List.setIfInBounds_toArray, List.set_cons_zero, List.set_cons_succ]
        clear hHeld hb
        have hHeld := hS2
        clear hS2
        refine pure_ (i := 44) (N := some 129) (v := ?_) (a' := ?_) #[true, true, true, true, true, true, true, true, true, true, true, true, true, true, true, true, true, true, true, true, true, true, true, true, true, true, true, true, true, true, true, true, true, true, true, true, true, true, true, true, true, true, true, true, true, false] rfl rfl (by kernel_rfl) (fun _ _ _ h => h) (Or.inl ⟨by rfl, ?_⟩) ?_ ?_
        rotate_left
        · intro w'
          go_simp
          try rw [bne_self_eq_false]
          try with_reducible rfl
        rotate_left
        · simp only [Act.put, List.setIfInBounds_toArray, List.set_cons_zero, List.set_cons_succ, i64_w, i32_w]
          rfl
        refine pure_ (i := 45) (N := some 130) (v := ?_) (a' := ?_) #[true, true, true, true, true, true, true, true, true, true, true, true, true, true, true, true, true, true, true, true, true, true, true, true, true, true, true, true, true, true, true, true, true, true, true, true, true, true, true, true, true, true, true, true, true, true] rfl rfl (by kernel_rfl) (fun _ _ _ h => h) (Or.inl ⟨by rfl, ?_⟩) ?_ ?_
        rotate_left
        · intro w'
          go_simp
          with_reducible rfl
        rotate_left
        · simp only [Act.put, List.setIfInBounds_toArray, List.set_cons_zero, List.set_cons_succ, i64_w, i32_w]
          rfl
        refine done_ (by kernel_rfl) ?_
        have HTZ := Aside0.mk (HT6.out.below hHeld)
        have HBZ := Aside0.mk (HBY.out.trans (hHeld.mono HT6.out.b.2.2.2))
        clear hHeld
        go_wp2
        go_roundg d
        case measure => have := HI.out; omega
        case rel => exact ⟨i + 1, l', by rw [HWI.out], ⟨by have := HI.out; omega⟩, HTZ, HBZ⟩
      · have d6 : decide ((i : Int) < 60) = false := decide_eq_false (by omega)
        have e6 : decide (i < 60) = false := decide_eq_false c6
        have f6 : (i < 60) = False := eq_false c6
        obtain ⟨WR0, hWR0⟩ : ∃ x, x = wr := ⟨_, rfl⟩
        subst hWR0
        have HLN := Aside0.mk (show l.length ≤ 60 by have := HT.out.len; have := HI.out; omega)
        obtain ⟨MX, hMX⟩ : ∃ M : Nat, (M : Int) = W + 2 := ⟨(W + 2).toNat, by have := HWH.out; omega⟩
        obtain ⟨MY, hMY⟩ : ∃ M : Nat, (M : Int) = H + 2 := ⟨(H + 2).toNat, by have := HWH.out; omega⟩
        have HMX := Aside0.mk hMX
        have HMY := Aside0.mk hMY
        clear hMX hMY ci c6 HI
        go_wp2
        go_loopg [18] MX (fun kq v18 ws => ∃ (x : Int), v18 = .int .i64 x ∧ Aside0 (-1 ≤ x ∧ x + (kq : Int) = W + 1) ∧ Aside0 (Below WR0.heap.size WR0 ws))
        case atStart => exact ⟨-1, rfl, ⟨by have := HMX.out; omega⟩, ⟨Below.refl _ _⟩⟩
        case round =>
          obtain ⟨x, rfl, HX, HBW⟩ := hrel
          by_cases cx : x ≤ W
          · have g1 : decide (x ≤ W) = true := decide_eq_true cx
            have HCX := Aside0.mk cx
            have HWX := Aside0.mk (show wrap64 (x + 1) = x + 1 from wr_id (by have := HX.out; have := HWH.out; omega))
            have HKX := Aside0.mk (show inK x from inK_small (by have := HX.out; have := HWH.out; omega))
            obtain ⟨d, rfl⟩ : ∃ d, gk = d + 1 := ⟨gk - 1, by have := HX.out; omega⟩
            clear cx
            go_wp2
            go_loopg [19] MY (fun kq v19 ws => ∃ (y : Int), v19 = .int .i64 y ∧ Aside0 (-1 ≤ y ∧ y + (kq : Int) = H + 1) ∧ Aside0 (Below WR0.heap.size WR0 ws))
            case atStart => exact ⟨-1, rfl, ⟨by have := HMY.out; omega⟩, HBW⟩
            case round =>
              clear HBW
              obtain ⟨y, rfl, HY, HBW⟩ := hrel
              by_cases cy : y ≤ H
              · have g2 : decide (y ≤ H) = true := decide_eq_true cy
                have HWY := Aside0.mk (show wrap64 (y + 1) = y + 1 from wr_id (by have := HY.out; have := HWH.out; omega))
                have HKY := Aside0.mk (show inK y from inK_small (by have := HY.out; have := HWH.out; omega))
                have HTW := Aside0.mk (HT.out.below HBW.out)
                have hz : (rAt W H l x y != rAt W H l x y) = false := bne_self_eq_false _
                obtain ⟨d2, rfl⟩ : ∃ d2, gk = d2 + 1 := ⟨gk - 1, by have := HY.out; omega⟩
                clear cy
                go_wp2_with (first
                  | (go_at_call 18; refine (AtJ.calls p mb W H l x y wr HSS.out HTW.out.s HTW.out.ok HKX.out HKY.out).mono ?_; rintro e w7 ⟨rfl, hb⟩; have HB7 := Aside0.mk hb; clear hb)
                  | (go_at_call 19; refine (RAt.calls g W H l x y w7 (HTW.out.r.below HB7.out) (by have := HLN.out; omega)).mono ?_; rintro e w8 ⟨rfl, hb⟩; have HB8 := Aside0.mk (HB7.out.trans (hb.mono HB7.out.size)); clear hb))
                go_roundg d2
                case measure => have := HY.out; omega
                case rel => exact ⟨y + 1, by rw [HWY.out], ⟨by have := HY.out; omega⟩, ⟨HBW.out.trans (HB8.out.mono HBW.out.size)⟩⟩
              · have g2 : decide (y ≤ H) = false := decide_eq_false cy
                clear cy
                go_wp2
                go_roundg d
                case measure => have := HX.out; omega
                case rel => exact ⟨x + 1, by rw [HWX.out], ⟨by have := HX.out; omega⟩, HBW⟩
          · have g1 : decide (x ≤ W) = false := decide_eq_false cx
            clear cx
            go_wp2_with (go_at_call 9; refine (frisketlaw20_alive.calls true wr rfl).mono ?_; rintro e w9 ⟨rfl, hb⟩; have HB9 := Aside0.mk hb; clear hb)
            go_ret
            exact ⟨rfl, (HBL.out.trans (HBW.out.mono HBL.out.size)).trans (HB9.out.mono (Nat.le_trans HBL.out.size HBW.out.size))⟩
    · have cb : decide (i < l0.length) = false := decide_eq_false ci
      have cb3 : decide ((i : Int) < (l0.length : Int)) = false := decide_eq_false (by omega)
      have cl : (i < l0.length) = False := eq_false ci
      obtain ⟨WR0, hWR0⟩ : ∃ x, x = wr := ⟨_, rfl⟩
      subst hWR0
      have HLN := Aside0.mk (show l.length ≤ 60 by have := HT.out.len; have := HI.out; omega)
      obtain ⟨MX, hMX⟩ : ∃ M : Nat, (M : Int) = W + 2 := ⟨(W + 2).toNat, by have := HWH.out; omega⟩
      obtain ⟨MY, hMY⟩ : ∃ M : Nat, (M : Int) = H + 2 := ⟨(H + 2).toNat, by have := HWH.out; omega⟩
      have HMX := Aside0.mk hMX
      have HMY := Aside0.mk hMY
      clear hMX hMY ci HI
      go_wp2
      go_loopg [18] MX (fun kq v18 ws => ∃ (x : Int), v18 = .int .i64 x ∧ Aside0 (-1 ≤ x ∧ x + (kq : Int) = W + 1) ∧ Aside0 (Below WR0.heap.size WR0 ws))
      case atStart => exact ⟨-1, rfl, ⟨by have := HMX.out; omega⟩, ⟨Below.refl _ _⟩⟩
      case round =>
        obtain ⟨x, rfl, HX, HBW⟩ := hrel
        by_cases cx : x ≤ W
        · have g1 : decide (x ≤ W) = true := decide_eq_true cx
          have HCX := Aside0.mk cx
          have HWX := Aside0.mk (show wrap64 (x + 1) = x + 1 from wr_id (by have := HX.out; have := HWH.out; omega))
          have HKX := Aside0.mk (show inK x from inK_small (by have := HX.out; have := HWH.out; omega))
          obtain ⟨d, rfl⟩ : ∃ d, gk = d + 1 := ⟨gk - 1, by have := HX.out; omega⟩
          clear cx
          go_wp2
          go_loopg [19] MY (fun kq v19 ws => ∃ (y : Int), v19 = .int .i64 y ∧ Aside0 (-1 ≤ y ∧ y + (kq : Int) = H + 1) ∧ Aside0 (Below WR0.heap.size WR0 ws))
          case atStart => exact ⟨-1, rfl, ⟨by have := HMY.out; omega⟩, HBW⟩
          case round =>
            clear HBW
            obtain ⟨y, rfl, HY, HBW⟩ := hrel
            by_cases cy : y ≤ H
            · have g2 : decide (y ≤ H) = true := decide_eq_true cy
              have HWY := Aside0.mk (show wrap64 (y + 1) = y + 1 from wr_id (by have := HY.out; have := HWH.out; omega))
              have HKY := Aside0.mk (show inK y from inK_small (by have := HY.out; have := HWH.out; omega))
              have HTW := Aside0.mk (HT.out.below HBW.out)
              have hz : (rAt W H l x y != rAt W H l x y) = false := bne_self_eq_false _
              obtain ⟨d2, rfl⟩ : ∃ d2, gk = d2 + 1 := ⟨gk - 1, by have := HY.out; omega⟩
              clear cy
              go_wp2_with (first
                | (go_at_call 18; refine (AtJ.calls p mb W H l x y wr HSS.out HTW.out.s HTW.out.ok HKX.out HKY.out).mono ?_; rintro e w7 ⟨rfl, hb⟩; have HB7 := Aside0.mk hb; clear hb)
                | (go_at_call 19; refine (RAt.calls g W H l x y w7 (HTW.out.r.below HB7.out) (by have := HLN.out; omega)).mono ?_; rintro e w8 ⟨rfl, hb⟩; have HB8 := Aside0.mk (HB7.out.trans (hb.mono HB7.out.size)); clear hb))
              go_roundg d2
              case measure => have := HY.out; omega
              case rel => exact ⟨y + 1, by rw [HWY.out], ⟨by have := HY.out; omega⟩, ⟨HBW.out.trans (HB8.out.mono HBW.out.size)⟩⟩
            · have g2 : decide (y ≤ H) = false := decide_eq_false cy
              clear cy
              go_wp2
              go_roundg d
              case measure => have := HX.out; omega
              case rel => exact ⟨x + 1, by rw [HWX.out], ⟨by have := HX.out; omega⟩, HBW⟩
        · have g1 : decide (x ≤ W) = false := decide_eq_false cx
          clear cx
          go_wp2_with (go_at_call 9; refine (frisketlaw20_alive.calls true wr rfl).mono ?_; rintro e w9 ⟨rfl, hb⟩; have HB9 := Aside0.mk hb; clear hb)
          go_ret
          exact ⟨rfl, (HBL.out.trans (HBW.out.mono HBL.out.size)).trans (HB9.out.mono (Nat.le_trans HBL.out.size HBW.out.size))⟩
end Go.Proofs.Ytpljnkfbcgdafaa.P
