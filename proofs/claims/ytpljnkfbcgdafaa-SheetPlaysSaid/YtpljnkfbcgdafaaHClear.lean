/- maps.DeleteFunc and sheet.Clear: an owner's cells are freed. -/
import Derived.Test.YtpljnkfbcgdafaaHSheet
namespace Go.Proofs.Ytpljnkfbcgdafaa.P
open Go.RowKit Go.Shelf Go.Proofs.YtpljnkfbcgdafaaW.PrintWords Go.Proofs.YtpljnkfbcgdafaaW.PrintLast Go.Proofs.YtpljnkfbcgdafaaW.PrintMore
open Go.ChangeShapes Go.WideShapes
set_option linter.unusedVariables false
set_option linter.unusedSimpArgs false

theorem hasE_perm {es es' : List Ent} (h : es.Perm es') (x y : Int) : hasE es x y = hasE es' x y := by
  rw [Bool.eq_iff_iff, hasE_iff, hasE_iff]
  constructor
  · rintro ⟨e, he, h1⟩; exact ⟨e, h.mem_iff.1 he, h1⟩
  · rintro ⟨e, he, h1⟩; exact ⟨e, h.mem_iff.2 he, h1⟩
theorem RepD.perm {D : DataW Unit} {es es' : List Ent} (r : RepD D es) (h : es.Perm es') : RepD D es' :=
  ⟨(h.pairwise_iff (fun {a b} (hne : a.1 ≠ b.1) => Ne.symm hne)).1 r.nd, fun e he => r.ok e (h.mem_iff.2 he), fun x y hx hy => by rw [← hasE_perm h]; exact r.hs x y hx hy, fun e he => r.at_ e (h.mem_iff.2 he), by rw [← h.length_eq]; exact r.sz⟩
theorem OwnE.perm {w : World} {b : Nat} {es es' : List Ent} (h : OwnE w b es) (hp : es.Perm es') : OwnE w b es' := by
  obtain ⟨D, h, r⟩ := h
  exact ⟨D, by rw [← hp.length_eq]; exact h, r.perm hp⟩
def delE (es : List Ent) (c : Int × Int) : List Ent := es.filter fun e => !(e.1 == c)
theorem hasE_del (es : List Ent) (x y x' y' : Int) : hasE (delE es (x, y)) x' y' = (hasE es x' y' && !((x, y) == (x', y'))) := by
  unfold delE hasE
  rw [List.any_filter]
  by_cases h : (x, y) = (x', y')
  · have : ((x, y) == (x', y')) = true := by simp [h]
    rw [this, h]
    simp
  · have : ((x, y) == (x', y')) = false := beq_eq_false_iff_ne.2 h
    simp only [this, Bool.not_false, Bool.and_true]
    congr 1
    funext e
    by_cases h2 : e.1 = (x', y')
    · have : (e.1 == (x, y)) = false := beq_eq_false_iff_ne.2 (fun h9 => h (h9.symm.trans h2))
      rw [this, h2]; rfl
    · have : (e.1 == (x', y')) = false := beq_eq_false_iff_ne.2 h2
      rw [this]; simp
theorem tightR {w : World} {b r n : Nat} {D : DataW Unit} {left : Lit → Bool} {cnt : Nat} (h : w.ranges Try.prog 57 (plainElem Try.prog 3) b r n D left cnt) : w.ranges Try.prog 57 (plainElem Try.prog 3) b r (Maps.size D) D left cnt := by
  obtain ⟨es, clock, since, seen, c0, h1, h2, h3, rfl, rest⟩ := h
  exact ⟨es, clock, since, seen, c0, h1, h2, by simp [Maps.size, length_read], rfl, rest⟩
theorem RngE.del {w : World} {b r : Nat} {es rest : List Ent} (h : RngE w b r es rest) (x y : Int) (hx : inK x) (hy : inK y) (hes : hasE es x y = true) (hr0 : hasE rest x y = false) (ty : TypeId) :
    ∃ w', (Builtin.delete_ #[50, 57] ty #[.map (some b), cv x y]).run Try.prog w = .ok (.tuple #[]) w' ∧ RngE w' b r (delE es (x, y)) rest ∧ w.grownBy w' (some b) ∧ w'.rangeLeft b r ≤ w.rangeLeft b r := by
  obtain ⟨D, left, cnt, h, hr, hsub, hpw, hl⟩ := h
  have ht := h.owns.entries law57
  obtain ⟨w', cnt', hrun, hrg, hle, hturn⟩ := h.drop law57 Try.underlying50 (keyOf_cv x y hx hy) ty
  obtain ⟨es0, rfl, hap, hkl⟩ := ht
  have tidy : Maps.Tidy (DataW.map es0) := ⟨_, rfl, hap⟩
  have hsz : Maps.size ((DataW.map es0).del (kyL x y)) = (delE es (x, y)).length := by
    have h1 := Maps.size_del (k := kyL x y) tidy
    rw [hr.hs x y hx hy, hes, hr.sz] at h1
    have h2 := len_strike (x := x) (y := y) hr.nd
    rw [hes] at h2
    unfold delE
    simp only [if_true] at h1 h2
    omega
  have h3 : w'.ranges Try.prog 57 (plainElem Try.prog 3) b r (Maps.size ((DataW.map es0).del (kyL x y))) ((DataW.map es0).del (kyL x y)) (fun z => left z && !z.sameKey (kyL x y)) cnt' := tightR hrg
  rw [hsz] at h3
  have hf : ∀ e ∈ delE es (x, y), e ∈ es ∧ e.1 ≠ (x, y) := fun e he => by
    obtain ⟨h1, h2⟩ := List.mem_filter.1 he
    exact ⟨h1, by simpa using h2⟩
  refine ⟨w', hrun, ⟨_, _, cnt', h3, ?_, ?_, hpw, ?_⟩, hturn.grown, by rw [hrg.left_eq, h.left_eq]; exact hle⟩
  · constructor
    · exact hr.nd.filter _
    · exact fun e he => hr.ok e (hf e he).1
    · intro x' y' hx' hy'
      rw [hasE_del]
      by_cases hxy : x' = x ∧ y' = y
      · obtain ⟨rfl, rfl⟩ := hxy
        refine (Maps.has_del_same (k := kyL x' y')).trans ?_
        simp
      · have hk : kyL x' y' ≠ kyL x y := fun h9 => hxy (kyL_inj hx' hy' hx hy h9)
        refine (Maps.has_del_other hk).trans ?_
        rw [hr.hs x' y' hx' hy']
        have : ((x, y) == (x', y')) = false := by
          rw [beq_eq_false_iff_ne]; intro h9; injection h9 with h8 h9; exact hxy ⟨h8.symm, h9.symm⟩
        simp [this]
    · intro e he z
      obtain ⟨he, hne⟩ := hf e he
      have hk : kyL e.1.1 e.1.2 ≠ kyL x y := fun h9 => by
        have h8 := hr.ok e he
        obtain ⟨h1, h2⟩ := kyL_inj h8.1 h8.2.1 hx hy h9
        exact hne (Prod.ext h1 h2)
      exact (Maps.atKey_del_other hk z).trans (hr.at_ e he z)
    · exact hsz
  · intro e he
    refine List.mem_filter.2 ⟨hsub e he, ?_⟩
    have : e.1 ≠ (x, y) := fun h9 => by
      have := hasE_mem he
      rw [h9, hr0] at this
      cases this
    simpa using this
  · intro x' y' hx' hy'
    rw [hl x' y' hx' hy']
    by_cases hxy : x' = x ∧ y' = y
    · obtain ⟨rfl, rfl⟩ := hxy
      rw [hr0]; rfl
    · have hk : kyL x' y' ≠ kyL x y := fun h9 => hxy (kyL_inj hx' hy' hx hy h9)
      rw [Maps.sameKey_ne hk]; simp
set_option maxHeartbeats 2000000 in
set_option maxRecDepth 100000 in
theorem isOwn.calls (x y o ow : Int) (Bn : Nat) (w : World) (hb : Boxed w Bn 3 (.int .i64 ow)) :
    Calls Try.prog 32 #[.agg #[.int .i64 x, .int .i64 y], .int .i64 o, .pointer (some ⟨Bn, 0, none⟩)] w fun e w' => e = .returned (.bool (o == ow)) ∧ w' = w.alloc (.cells #[.int .i64 x, .int .i64 y] 57) := by
  have hu57 := Try.underlying57
  have hc := (hb.alloc (.cells #[.int .i64 x, .int .i64 y] 57)).cell
  clear hb
  go_enter Try.func32, Try.ntmps32
  go_wp2
  go_ret
  exact ⟨rfl, rfl⟩
/-- What is not an owner's. -/
def notE (ow : Int) (l : List Ent) : List Ent := l.filter fun e => !(e.2 == ow)
theorem rest_off {es rest r1 r2 cur done : List Ent} {ow : Int} {e : Ent} (hnd : cur.Pairwise (fun a b => a.1 ≠ b.1)) (hc : cur.Perm (notE ow done ++ (r1 ++ e :: r2))) : hasE (r1 ++ r2) e.1.1 e.1.2 = false := by
  have h1 := (hc.pairwise_iff (fun {a b} (hne : a.1 ≠ b.1) => Ne.symm hne)).1 hnd
  rw [List.pairwise_append] at h1
  have h2 := h1.2.1
  rw [List.pairwise_append] at h2
  obtain ⟨p1, p2, p3⟩ := h2
  rw [Bool.eq_false_iff]
  intro h9
  obtain ⟨a, ha, hxy⟩ := hasE_iff.1 h9
  rcases List.mem_append.1 ha with ha | ha
  · exact p3 a ha e (List.mem_cons_self ..) hxy
  · exact (List.pairwise_cons.1 p2).1 a ha hxy.symm
theorem del_perm {cur a r1 r2 : List Ent} {e : Ent} (hnd : cur.Pairwise (fun a b => a.1 ≠ b.1)) (hc : cur.Perm (a ++ (r1 ++ e :: r2))) : (delE cur (e.1.1, e.1.2)).Perm (a ++ (r1 ++ r2)) := by
  have h0 : cur.Perm (e :: (a ++ (r1 ++ r2))) := hc.trans ((List.Perm.append_left a List.perm_middle).trans List.perm_middle)
  have h1 := (h0.pairwise_iff (fun {a b} (hne : a.1 ≠ b.1) => Ne.symm hne)).1 hnd
  refine (h0.filter _).trans ?_
  rw [List.filter_cons_of_neg (by simp)]
  rw [List.filter_eq_self.2]
  intro b hb
  have := (List.pairwise_cons.1 h1).1 b hb
  simp only [Bool.not_eq_true', beq_eq_false_iff_ne, ne_eq]
  exact fun h9 => this h9.symm
set_option maxHeartbeats 4000000 in
set_option maxRecDepth 100000 in
theorem DeleteFunc.calls (mb Bn : Nat) (es : List Ent) (ow : Int) (w : World) (ho : OwnE w mb es) (hb : Boxed w Bn 3 (.int .i64 ow)) (hne : Bn ≠ mb) :
    Calls Try.prog 31 #[.map (some mb), .func (.func 32) #[] #[.pointer (some ⟨Bn, 0, none⟩)]] w fun e w' => e = .returned (.tuple #[]) ∧ OwnE w' mb (notE ow es) ∧ w.grownBy w' (some mb) := by
  have hu57 := Try.underlying57
  have hml := ho.lt
  have hbl := hb.lt
  obtain ⟨w2, hrun, hrg, hg2, hsz2⟩ := ho.range
  have HB2 := Aside0.mk (hb.kept hg2 (by simp))
  obtain ⟨R, hR⟩ : ∃ R, w.heap.size = R := ⟨_, rfl⟩
  rw [hR] at hrun hrg hml hbl
  have HR2 := Aside0.mk hrg
  have HL := Aside0.mk (show mb < R ∧ Bn < R ∧ Bn ≠ mb ∧ w.heap.size = R from ⟨hml, hbl, hne, hR⟩)
  have HG2 := Aside0.mk (hg2.but (some mb))
  clear hrg hR hg2 ho hb hml hbl hne hsz2
  go_enter Try.func31, Try.ntmps31
  go_wp2
  go_loopw [4, 5] (fun _ _ wr => ∃ (done rest cur : List Ent), Aside0 ((done ++ rest).Perm es) ∧ Aside0 (cur.Perm (notE ow done ++ rest)) ∧ Aside0 (RngE wr mb R cur rest) ∧ Aside0 (Boxed wr Bn 3 (.int .i64 ow)) ∧ Aside0 (w.grownBy wr (some mb)))
    (fun _ _ wr => wr.rangeLeft mb R)
  case atStart => exact ⟨[], es, es, ⟨List.Perm.refl _⟩, ⟨List.Perm.refl _⟩, HR2, HB2, HG2⟩
  case round =>
    obtain ⟨done, rest, cur, HP, HC, HR, HBx, HG⟩ := hrel
    clear hrun HR2 HB2 HG2
    rcases HR.out.next 0 with ⟨hr0, hnx⟩ | ⟨e, r1, r2, w3, hrest, hees, hx, hy, ho, hnx, hrg3, hg3, hsz3, hen, hlt3⟩
    · have HE := Aside0.mk hr0
      clear hr0
      go_wp2
      go_end0
      refine ⟨rfl, HR.out.own.perm ?_, HG.out⟩
      have h1 := HP.out
      have h2 := HC.out
      rw [HE.out, List.append_nil] at h1 h2
      exact h2.trans (h1.filter _)
    · have hHC : cur.Perm (notE ow done ++ (r1 ++ e :: r2)) := by have := HC.out; rw [hrest] at this; exact this
      have hoff := rest_off (rest := rest) (es := es) HR.out.own.nd hHC
      have HPP : Aside0 (((done ++ [e]) ++ (r1 ++ r2)).Perm es) := ⟨by
        refine List.Perm.trans ?_ HP.out
        rw [hrest, List.append_assoc]
        exact List.Perm.append_left _ (List.perm_middle (l₁ := r1)).symm⟩
      obtain ⟨⟨x, y⟩, o⟩ := e
      simp only [cv] at hnx hen
      have hBx3 := HBx.out.kept hg3 (by have := HL.out; simp; omega)
      have HR4 := Aside0.mk (hrg3.kept (World.grownBy_alloc w3 (.cells #[.int .i64 x, .int .i64 y] 57) none) (by simp) (by simp))
      have HBx4 := Aside0.mk (hBx3.alloc (.cells #[.int .i64 x, .int .i64 y] 57))
      have HG4 := Aside0.mk ((HG.out.andThen hg3 (fun j hj => by cases hj; exact .inl (Nat.le_of_eq HL.out.2.2.2))).trans (World.grownBy_alloc w3 (.cells #[.int .i64 x, .int .i64 y] 57) (some mb)))
      have HC4 := Aside0.mk (blk_new w3 (.cells #[.int .i64 x, .int .i64 y] 57))
      have HM4 : Aside0 ((w3.alloc (.cells #[.int .i64 x, .int .i64 y] 57)).rangeLeft mb R < wr.rangeLeft mb R) := ⟨by rw [rangeLeft_kept (Below.heap_alloc w3 _ mb hrg3.blt.1) (Below.heap_alloc w3 _ R hrg3.blt.2.1)]; exact hlt3⟩
      have HE := Aside0.mk (show inK x ∧ inK y ∧ hasE cur x y = true ∧ hasE (r1 ++ r2) x y = false from ⟨hx, hy, hasE_mem hees, hoff⟩)
      have HHC := Aside0.mk hHC
      clear hrest hees hrg3 hg3 hsz3 hlt3 hBx3 hoff hHC
      have HR5 := Aside0.mk (HR4.out.kept (World.grownBy_alloc _ (.cells #[.int .i64 x, .int .i64 y] 57) none) (by simp) (by simp))
      have HBx5 := Aside0.mk (HBx4.out.alloc (.cells #[.int .i64 x, .int .i64 y] 57))
      have HG5 := Aside0.mk (HG4.out.trans (World.grownBy_alloc _ (.cells #[.int .i64 x, .int .i64 y] 57) (some mb)))
      have HM5 : Aside0 (((w3.alloc (.cells #[.int .i64 x, .int .i64 y] 57)).alloc (.cells #[.int .i64 x, .int .i64 y] 57)).rangeLeft mb R < wr.rangeLeft mb R) := ⟨by rw [rangeLeft_kept (Below.heap_alloc _ _ mb HR4.out.blt.1) (Below.heap_alloc _ _ R HR4.out.blt.2.1)]; exact HM4.out⟩
      have HC5 := Aside0.mk (blk_alloc HC4.out (.cells #[.int .i64 x, .int .i64 y] 57))
      by_cases hoo : o = ow
      · have HOO := Aside0.mk hoo
        have hob : (o == ow) = true := beq_iff_eq.2 hoo
        obtain ⟨w6, hdel, hrg6, hg6, hl6⟩ := HR5.out.del x y HE.out.1 HE.out.2.1 HE.out.2.2.1 HE.out.2.2.2 0
        simp only [cv] at hdel
        have HR6 := Aside0.mk hrg6
        have HBx6 := Aside0.mk (HBx5.out.kept hg6 (by have := HL.out; simp; omega))
        have HG6 := Aside0.mk (HG5.out.trans hg6)
        have HM6 := Aside0.mk (Nat.lt_of_le_of_lt hl6 HM5.out)
        have x0 := cI HC5.out 0 (v := .int .i64 x) rfl
        have x1 := cI HC5.out 1 (v := .int .i64 y) rfl
        clear hoo hrg6 hg6 hl6
        go_wp2_with (go_at_call 32; refine (isOwn.calls x y o ow Bn _ HBx4.out).mono ?_; rintro e5 w5 ⟨rfl, rfl⟩)
        go_roundw
        case rel =>
          refine ⟨done ++ [((x, y), o)], r1 ++ r2, _, HPP, ⟨?_⟩, HR6, HBx6, HG6⟩
          have hk : (notE ow (done ++ [((x, y), o)])) = notE ow done := by unfold notE; rw [List.filter_append]; simp [HOO.out]
          rw [hk]
          exact del_perm HR5.out.own.nd HHC.out
        case measure => exact HM6.out
      · have HOO := Aside0.mk hoo
        have hob : (o == ow) = false := beq_eq_false_iff_ne.2 hoo
        clear hoo
        go_wp2_with (go_at_call 32; refine (isOwn.calls x y o ow Bn _ HBx4.out).mono ?_; rintro e5 w5 ⟨rfl, rfl⟩)
        go_roundw
        case rel =>
          refine ⟨done ++ [((x, y), o)], r1 ++ r2, cur, HPP, ⟨?_⟩, HR5, HBx5, HG5⟩
          have hk : (notE ow (done ++ [((x, y), o)])) = notE ow done ++ [((x, y), o)] := by unfold notE; rw [List.filter_append]; simp [HOO.out]
          rw [hk, List.append_assoc]
          exact HHC.out.trans (List.Perm.append_left _ (List.perm_middle (l₁ := r1)))
        case measure => exact HM5.out
set_option maxHeartbeats 4000000 in
set_option maxRecDepth 100000 in
theorem Clear.calls (p mb : Nat) (W H : Int) (es : List Ent) (ow : Int) (w : World) (h : Sh w p mb W H es) (hes : es.length ≤ 1000000) :
    Calls Try.prog 21 #[.pointer (some ⟨p, 0, none⟩), .int .i64 ow] w fun e w' => e = .returned (.int .i64 ((es.length : Int) - ((notE ow es).length : Int))) ∧ Sh w' p mb W H (notE ow es) ∧ w.grownBy w' (some mb) := by
  have hu52 := Try.underlying52
  have hA := h.kept (World.grownBy_alloc w (.cells #[.int .i64 ow] 3) none) (by simp) (by simp)
  have hbx := Boxed.new w 3 (.int .i64 ow)
  have hc := hA.c2
  have hl := hA.own.len 3
  have HA := Aside0.mk hA
  have HBX := Aside0.mk hbx
  have HN := Aside0.mk (show p < w.heap.size ∧ mb < w.heap.size ∧ p ≠ mb from ⟨h.lt, h.own.lt, h.ne⟩)
  have hlen : (notE ow es).length ≤ es.length := List.length_filter_le _ _
  have HW := Aside0.mk (show wrap64 ((es.length : Int) - ((notE ow es).length : Int)) = (es.length : Int) - ((notE ow es).length : Int) by unfold wrap64; omega)
  clear h hA hbx hes hlen
  go_enter Try.func21, Try.ntmps21
  go_wp2_with (go_at_call 31; refine (DeleteFunc.calls mb w.heap.size es ow _ HA.out.own HBX.out (by have := HN.out; omega)).mono ?_; rintro e w2 ⟨rfl, hown, hg⟩; have hs2 : Sh w2 p mb W H (notE ow es) := ⟨blk_grown HA.out.blk hg (fun e => by cases e; exact HN.out.2.2 rfl), hown⟩; have HS2 := Aside0.mk hs2; have HG2 := Aside0.mk ((World.grownBy_alloc w (.cells #[.int .i64 ow] 3) (some mb)).trans hg); have hc2 := hs2.c2; have hl2 := hs2.own.len 3; clear hown hg hs2)
  go_ret
  exact ⟨by show Ending.returned (Value.int .i64 (wrap64 ((es.length : Int) - ((notE ow es).length : Int)))) = _; rw [HW.out], HS2.out, HG2.out⟩
end Go.Proofs.Ytpljnkfbcgdafaa.P
