/- What a new owner takes, and is cleared, leaves nothing. -/
import Derived.Test.YtpljnkfbcgdafaaHTwo
namespace Go.Proofs.Ytpljnkfbcgdafaa.P
open Go.RowKit Go.Shelf Go.Proofs.YtpljnkfbcgdafaaW.PrintWords Go.Proofs.YtpljnkfbcgdafaaW.PrintLast Go.Proofs.YtpljnkfbcgdafaaW.PrintMore
set_option linter.unusedVariables false
set_option linter.unusedSimpArgs false

def offC (pre : List CellK) (e : Ent) : Bool := !(pre.any fun c => e.1 == c.1)
theorem fold_put (o : Int) : ∀ (pre : List CellK) (es : List Ent), pre.Pairwise (fun a b => a.1 ≠ b.1) →
    pre.foldl (fun es (c : CellK) => putE es c.1 o) es = es.filter (offC pre) ++ pre.map (fun c => (c.1, o))
  | [], es, _ => by
    show es = es.filter (offC []) ++ []
    rw [List.append_nil]
    exact (List.filter_eq_self.2 (fun e _ => rfl)).symm
  | c :: pre, es, h => by
    obtain ⟨h1, h2⟩ := List.pairwise_cons.1 h
    rw [List.foldl_cons, fold_put o pre _ h2]
    unfold putE
    rw [List.filter_append, List.filter_filter, List.map_cons]
    have h3 : [(c.1, o)].filter (offC pre) = [(c.1, o)] := by
      have : offC pre (c.1, o) = true := by
        unfold offC
        rw [Bool.not_eq_true', List.any_eq_false]
        intro x hx
        simpa using h1 x hx
      simp [this]
    rw [h3, List.append_assoc]
    congr 1
    apply List.filter_congr
    intro e _
    unfold offC
    rw [List.any_cons, Bool.not_or, Bool.and_comm]
theorem notE_fold (o : Int) (pre : List CellK) (es : List Ent) (h : ∀ e ∈ es, e.2 ≠ o) : notE o (es.filter (offC pre) ++ pre.map (fun c => (c.1, o))) = es.filter (offC pre) := by
  unfold notE
  rw [List.filter_append]
  have h1 : (pre.map (fun c : CellK => ((c.1, o) : Ent))).filter (fun e => !(e.2 == o)) = [] := by
    rw [List.filter_eq_nil_iff]
    intro e he
    obtain ⟨c, _, rfl⟩ := List.mem_map.1 he
    simp
  rw [h1, List.append_nil, List.filter_eq_self]
  intro e he
  have := h e (List.mem_filter.1 he).1
  simpa using this
theorem notE_self (o : Int) (es : List Ent) (h : ∀ e ∈ es, e.2 ≠ o) : notE o es = es := by
  unfold notE
  rw [List.filter_eq_self]
  intro e he
  simpa using h e he
theorem valE_off (pre : List CellK) (es : List Ent) (h : ∀ c ∈ pre, valE es c.1.1 c.1.2 = 0) (x y : Int) : valE (es.filter (offC pre)) x y = valE es x y := by
  by_cases hc : ∃ c ∈ pre, c.1 = (x, y)
  · obtain ⟨c, hm, he⟩ := hc
    have h1 := h c hm
    rw [he] at h1
    rw [h1]
    unfold valE
    have : (es.filter (offC pre)).find? (fun e => e.1 == (x, y)) = none := by
      rw [List.find?_eq_none]
      intro e hx
      have h2 := (List.mem_filter.1 hx).2
      unfold offC at h2
      rw [Bool.not_eq_true', List.any_eq_false] at h2
      have h3 := h2 c hm
      rw [he] at h3
      exact h3
    rw [this]
  · unfold valE
    rw [List.find?_filter]
    have : (fun a : Ent => decide (offC pre a = true ∧ (a.1 == (x, y)) = true)) = fun a => a.1 == (x, y) := by
      funext a
      by_cases ha : a.1 = (x, y)
      · have h4 : offC pre a = true := by
          unfold offC
          rw [Bool.not_eq_true', List.any_eq_false]
          intro c hm he
          exact hc ⟨c, hm, by rw [← ha]; exact (beq_iff_eq.1 he).symm⟩
        simp [h4, ha]
      · have h5 : (a.1 == (x, y)) = false := beq_eq_false_iff_ne.2 ha
        simp [h5]
    first | rw [this] | (simp only [Bool.decide_and, Bool.decide_eq_true] at this ⊢; rw [this])
theorem upC_nodup (X Y : Int) (rw_ rh : Nat) (h : 0 ≤ X ∧ X ≤ 100 ∧ 0 ≤ Y ∧ Y ≤ 100 ∧ rw_ ≤ 100 ∧ rh ≤ 100) : (upC X Y rh (rw_ * rh)).Pairwise (fun a b => a.1 ≠ b.1) := by
  have key : ∀ k, k < rw_ * rh → (cellAt X Y rh k).1 = (X + ((k / rh : Nat) : Int), Y + ((k % rh : Nat) : Int)) := by
    intro k hk
    have hr : 0 < rh := by
      rcases Nat.eq_zero_or_pos rh with h0 | h0
      · subst h0; omega
      · exact h0
    have h1 : k / rh < rw_ := Nat.div_lt_of_lt_mul (by rw [Nat.mul_comm]; exact hk)
    have h2 := Nat.mod_lt k hr
    unfold cellAt
    clear hk
    generalize k / rh = A at h1 ⊢
    generalize k % rh = B at h2 ⊢
    exact mkC_in (by omega)
  unfold upC
  rw [List.pairwise_map, List.pairwise_iff_getElem]
  intro i j hi hj hij
  rw [List.length_range] at hi hj
  rw [List.getElem_range, List.getElem_range, key i hi, key j hj]
  intro e
  simp only [Prod.mk.injEq] at e
  have h3 := Nat.div_add_mod i rh
  have h4 := Nat.div_add_mod j rh
  have h5 : i / rh = j / rh := by omega
  have h6 : i % rh = j % rh := by omega
  rw [h5, h6] at h3
  omega
/-- Behind the last owner's Take. -/
def Back (o : Int) (es es' : List Ent) (e m : Int) : Prop :=
  (es'.length : Int) - ((notE o es').length : Int) = (if e = 0 then m else 0) ∧ ∀ x y, valE (notE o es') x y = valE es x y
theorem TakeL.calls (p mb : Nat) (W H : Int) (es : List Ent) (X Y Rw Rh : Int) (n : Nat) (w : World) (h : Sh w p mb W H es) (hW : 1 ≤ W ∧ W ≤ 16) (hH : 1 ≤ H ∧ H ≤ 16) (hI : Inv n es) (hn : n ≤ 60) :
    Calls Try.prog 20 #[.pointer (some ⟨p, 0, none⟩), .agg #[.int .i64 X, .int .i64 Y, .int .i64 Rw, .int .i64 Rh], .int .i64 1048576] w fun e w' =>
      ∃ (r : Int) (es' : List Ent), e = .returned (.int .i64 r) ∧ Sh w' p mb W H es' ∧ es'.length ≤ 1000000 ∧ Back 1048576 es es' r (wrap64 (Rw * Rh)) ∧ w.grownBy w' (some mb) := by
  have keep : Back 1048576 es es 201 (wrap64 (Rw * Rh)) := by
    unfold Back
    rw [notE_self _ _ hI.2, if_neg (by decide)]
    exact ⟨by omega, fun _ _ => rfl⟩
  by_cases hy : liesB X Rw W = true ∧ liesB Y Rh H = true ∧ (1 : Int) ≤ 1048576 ∧ (1048576 : Int) ≤ 1048576
  · obtain ⟨h1, h2, h3⟩ := hy
    obtain ⟨rw_, rfl, k1⟩ := lies_nat h1 hW.2
    obtain ⟨rh, rfl, k2⟩ := lies_nat h2 hH.2
    refine (Take_ok.calls p mb W H es X Y rw_ rh 1048576 w h (by omega) (by omega) h1 h2 h3 (hI.big hn)).mono fun e w' hq => ?_
    rcases hq with ⟨hf, he, hs, hg⟩ | ⟨_, he, hs, hg⟩
    · have hxy : 0 ≤ X ∧ X ≤ 100 ∧ 0 ≤ Y ∧ Y ≤ 100 ∧ rw_ ≤ 100 ∧ rh ≤ 100 := by
        simp only [liesB, Bool.and_eq_true, decide_eq_true_eq] at h1 h2
        omega
      have hnd := upC_nodup X Y rw_ rh hxy
      have hfp := fold_put 1048576 _ es hnd
      have hlen : (upC X Y rh (rw_ * rh)).length = rw_ * rh := by simp [upC]
      have hle : rw_ * rh ≤ 16 * 16 := Nat.mul_le_mul k1 k2
      have h7 := hI.1
      have h8 := List.length_filter_le (offC (upC X Y rh (rw_ * rh))) es
      refine ⟨_, _, he, hs, ?_, ?_, hg⟩
      · rw [hfp, List.length_append, List.length_map, hlen]
        omega
      · unfold Back
        rw [hfp, notE_fold _ _ _ hI.2, if_pos rfl, List.length_append, List.length_map, hlen]
        refine ⟨?_, fun x y => valE_off _ _ hf x y⟩
        have h9 : wrap64 ((rw_ : Int) * (rh : Int)) = ((rw_ * rh : Nat) : Int) := by
          rw [← Int.natCast_mul]
          generalize rw_ * rh = m at hle
          unfold wrap64
          omega
        rw [h9]
        omega
    · exact ⟨_, _, he, hs, hI.big hn, keep, hg⟩
  · refine (Take_no.calls p mb W H es X Y Rw Rh 1048576 w h (by omega) (by omega) hy).mono fun e w' hq => ?_
    obtain ⟨he, hs, hg⟩ := hq
    exact ⟨_, _, he, hs, hI.big hn, keep, hg⟩
end Go.Proofs.Ytpljnkfbcgdafaa.P
