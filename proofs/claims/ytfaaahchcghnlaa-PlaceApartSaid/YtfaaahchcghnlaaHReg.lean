/- A region that draws its order and ends in a store to a cell that it loads: a condition on the world that is dropped, in part, behind operation s; no condition. -/
import Derived.OrdersHeld
import Derived.StillTail
import Derived.Deep.RegionHeld
namespace Go.Proofs.Ytfaaahchcghnlaa.P
section
variable {P : Program} {ops : Array Oper} {Q : Exit → Act → World → Prop} {md : Region.Mode} {s : Nat} {base c : World → Prop}
/-- What is held of the world: 'base' throughout, 'c' till operation s has come up. -/
def SM (s : Nat) (base c : World → Prop) (l : Array Bool) (w : World) : Prop := base w ∧ (l.getD s false = false → c w)
def wpAnyM (P : Program) (md : Region.Mode) (ops : Array Oper) (Q : Exit → Act → World → Prop) (s : Nat) (base c : World → Prop) : Nat → Array Bool → Act → World → Prop
  | 0, listed, a, w => Region.ready md ops listed = [] ∧ Q .normal a w
  | fuel + 1, listed, a, w =>
    (Region.ready md ops listed = [] → Q .normal a w) ∧
    ∀ i ∈ Region.ready md ops listed, wpOp P ops Q i (fun a' w' => SM s base c (listed.setIfInBounds i true) w' ∧ wpAnyM P md ops Q s base c fuel (listed.setIfInBounds i true) a' w') a w
theorem wpAny_of_M : ∀ (fuel : Nat) (listed : Array Bool) (a : Act) (w : World), wpAnyM P md ops Q s base c fuel listed a w → wpAny P md ops Q fuel listed a w
  | 0, _, _, _, h => h
  | fuel + 1, _, _, _, h => ⟨h.1, fun i hi => wpOp_mono (fun a' w' h' => wpAny_of_M fuel _ a' w' h'.2) (h.2 i hi)⟩
def Closed (md : Region.Mode) (ops : Array Oper) (l : Array Bool) : Prop :=
  ∀ j oj, ops[j]? = some oj → l.getD j false = true → ∀ e ∈ oj.after, Region.binds md e = true → l.getD e.on false = true
theorem Closed.set {l : Array Bool} (h : Closed md ops l) {i : Nat} (hi : i ∈ Region.ready md ops l) : Closed md ops (l.setIfInBounds i true) := by
  obtain ⟨_, oi, hoi, hall⟩ := mem_ready.1 hi
  intro j oj hj hl e he hb
  by_cases hij : i = j
  · subst hij
    have : oj = oi := Option.some.inj (hj.symm.trans hoi)
    subst this
    exact getD_set_true (hall e he hb)
  · rw [getD_set_ne false hij] at hl
    exact getD_set_true (h j oj hj hl e he hb)
theorem Closed.waits {l : Array Bool} (h : Closed md ops l) {i : Nat} (hw : Region.waitsFor md ops s i = true) (hi : l.getD i true = false) : l.getD s false = false := by
  obtain ⟨os, hos, e, he, hb, hon⟩ := Region.waitsFor_spec hw
  cases hl : l.getD s false with
  | false => rfl
  | true =>
    have := h s os hos hl e he hb
    rw [hon, getD_both hi] at this
    cases this
theorem SM.set {l : Array Bool} {i : Nat} {w : World} (hne : i ≠ s) : SM s base c (l.setIfInBounds i true) w ↔ SM s base c l w := by
  unfold SM
  rw [getD_set_ne false hne]
theorem wpAnyM_first {i : Nat} {oi : Oper} {v : Value} (hi : ops[i]? = some oi) (hsel : ∀ (j : Nat) (o : Oper) cs b, ops[j]? = some o → o.op ≠ .select cs b)
    (hQ : ∀ c a w, Q (.panic c) (a.put oi.dst v) w → Q (.panic c) a w) (hne : i ≠ s) {S0 : World → Prop} (hS0 : ∀ (l : Array Bool) w, Closed md ops l → l.getD i true = false → SM s base c l w → S0 w) :
    ∀ (fuel : Nat) (listed : Array Bool) (a : Act) (w : World), Closed md ops listed →
      (∀ j oj, ops[j]? = some oj → j ≠ i → listed.getD j true = false → (∀ e ∈ oj.after, Region.binds md e = true → e.on ≠ i) → oi.apart ops oj = true) →
      i ∈ Region.ready md ops listed → YieldsIf P ops S0 oi v a → SM s base c listed w →
      wpAnyM P md ops Q s base c fuel (listed.setIfInBounds i true) (a.put oi.dst v) w → wpAnyM P md ops Q s base c (fuel + 1) listed a w := by
  intro fuel
  induction fuel with
  | zero =>
    intro listed a w hcl _ hr hy hS H
    have hS' : S0 w := hS0 listed w hcl (mem_ready.1 hr).1 hS
    refine ⟨fun h => (by rw [h] at hr; cases hr), fun j hj => ?_⟩
    by_cases hji : j = i
    · subst hji; exact hy.wpOp hi hS' ⟨(SM.set hne).2 hS, H⟩
    · have := ready_mono hj hji
      rw [H.1] at this
      cases this
  | succ fuel ih =>
    intro listed a w hcl hfree hr hy hS H
    have hS' : S0 w := hS0 listed w hcl (mem_ready.1 hr).1 hS
    refine ⟨fun h => (by rw [h] at hr; cases hr), fun j hj => ?_⟩
    by_cases hji : j = i
    · subst hji; exact hy.wpOp hi hS' ⟨(SM.set hne).2 hS, H⟩
    · have h1 := H.2 j (ready_mono hj hji)
      obtain ⟨hjun, oj, hoj, hall⟩ := mem_ready.1 hj
      have hnot : ∀ e ∈ oj.after, Region.binds md e = true → e.on ≠ i := fun e he hb heq => by
        have h1 := hall e he hb
        have h0 := (mem_ready.1 hr).1
        rw [heq] at h1
        rw [getD_both h0] at h1
        cases h1
      have h2 := wpOp_putIf hoj (hfree j oj hoj hji hjun hnot) (fun cs b => hsel i oi cs b hi) (fun cs b => hsel j oj cs b hoj) hQ hy h1
      have hfree' : ∀ k ok, ops[k]? = some ok → k ≠ i → (listed.setIfInBounds j true).getD k true = false →
          (∀ e ∈ ok.after, Region.binds md e = true → e.on ≠ i) → oi.apart ops ok = true := fun k ok hk hki hun hno => by
        refine hfree k ok hk hki ?_ hno
        by_cases hjk : j = k
        · subst hjk; exact hjun
        · rw [getD_set_ne true hjk] at hun; exact hun
      refine wpOp_mono (fun a' w' h3 => ?_) h2
      have hSj : SM s base c (listed.setIfInBounds j true) w' := by
        have := h3.2.1
        rw [Array.setIfInBounds_comm _ _ (Ne.symm hji)] at this
        exact (SM.set hne).1 this
      refine ⟨hSj, ih (listed.setIfInBounds j true) a' w' (hcl.set hj) hfree' (ready_mono hr (Ne.symm hji)) h3.1 hSj ?_⟩
      rw [Array.setIfInBounds_comm _ _ hji]
      exact h3.2.2
/-- The same, for what is closed. -/
def wpM (P : Program) (md : Region.Mode) (ops : Array Oper) (Q : Exit → Act → World → Prop) (s : Nat) (base c : World → Prop) (fuel : Nat) (listed : Array Bool) (a : Act) (w : World) : Prop :=
  Closed md ops listed → wpAnyM P md ops Q s base c fuel listed a w
theorem wpM_take {i : Nat} {oi : Oper} {v : Value} {fuel : Nat} {listed : Array Bool} {a : Act} {w : World} (hi : ops[i]? = some oi)
    (hs : Region.noSelect ops = true) (hf : Region.free md ops listed i = true) (hr : (Region.ready md ops listed).contains i = true) (hws : (i != s && Region.waitsFor md ops s i) = true)
    (hQ : ∀ c a w, Q (.panic c) (a.put oi.dst v) w → Q (.panic c) a w) (hy : YieldsIf P ops (fun w => base w ∧ c w) oi v a) (hS : SM s base c listed w)
    (h : SM s base c (listed.setIfInBounds i true) w → wpM P md ops Q s base c fuel (listed.setIfInBounds i true) (a.put oi.dst v) w) : wpM P md ops Q s base c (fuel + 1) listed a w := fun hcl => by
  simp only [Bool.and_eq_true, bne_iff_ne] at hws
  have hr' : i ∈ Region.ready md ops listed := by simpa using hr
  exact wpAnyM_first hi (Region.noSelect_spec hs) hQ hws.1 (S0 := fun w => base w ∧ c w) (fun l w hcl hl hS => ⟨hS.1, hS.2 (hcl.waits hws.2 hl)⟩) fuel listed a w hcl (Region.free_spec hi hf) hr' hy hS (h ((SM.set hws.1).2 hS) (hcl.set hr'))
theorem wpM_takeB {i : Nat} {oi : Oper} {v : Value} {fuel : Nat} {listed : Array Bool} {a : Act} {w : World} (hi : ops[i]? = some oi)
    (hs : Region.noSelect ops = true) (hf : Region.free md ops listed i = true) (hr : (Region.ready md ops listed).contains i = true) (hne : (i != s) = true)
    (hQ : ∀ c a w, Q (.panic c) (a.put oi.dst v) w → Q (.panic c) a w) (hy : YieldsIf P ops base oi v a) (hS : SM s base c listed w)
    (h : SM s base c (listed.setIfInBounds i true) w → wpM P md ops Q s base c fuel (listed.setIfInBounds i true) (a.put oi.dst v) w) : wpM P md ops Q s base c (fuel + 1) listed a w := fun hcl => by
  simp only [bne_iff_ne] at hne
  have hr' : i ∈ Region.ready md ops listed := by simpa using hr
  exact wpAnyM_first hi (Region.noSelect_spec hs) hQ hne (S0 := base) (fun l w _ _ hS => hS.1) fuel listed a w hcl (Region.free_spec hi hf) hr' hy hS (h ((SM.set hne).2 hS) (hcl.set hr'))
/-- One alone may come up. -/
theorem wpM_one {i : Nat} {o : Oper} {fuel : Nat} {listed : Array Bool} {a : Act} {w : World} (hr : Region.ready md ops listed = [i]) (ho : ops[i]? = some o)
    (h : ∀ K' : Act → World → Prop, Shut (∀ a w, SM s base c (listed.setIfInBounds i true) w → (SM s base c (listed.setIfInBounds i true) w → wpM P md ops Q s base c fuel (listed.setIfInBounds i true) a w) → K' a w) → if Region.wanted o (yielded ops a.tmps) = true then Oper.wp P o a w K' Q else K' (a.put o.dst undef) w) :
    wpM P md ops Q s base c (fuel + 1) listed a w := fun hcl => by
  refine ⟨fun h0 => (by rw [h0] at hr; cases hr), fun j hj => ?_⟩
  rw [hr, List.mem_singleton] at hj
  subst hj
  have hj : j ∈ Region.ready md ops listed := by rw [hr]; simp
  exact wpOp_step ho (fun K' hK => h K' (fun a w hS hW => hK a w ⟨hS, hW hS (hcl.set hj)⟩))
theorem wpM_world {fuel : Nat} {listed : Array Bool} {a : Act} {W : World} (F : World → Prop) (hF : F W) (h : ∀ w, F w → wpM P md ops Q s base c fuel listed a w) : wpM P md ops Q s base c fuel listed a W := h W hF
theorem wpM_done {listed : Array Bool} {a : Act} {w : World} (hr : Region.ready md ops listed = []) (h : Q .normal a w) : ∀ fuel, wpM P md ops Q s base c fuel listed a w
  | 0 => fun _ => ⟨hr, h⟩
  | _ + 1 => fun _ => ⟨fun _ => h, by rw [hr]; simp⟩
theorem wp_region_M {id : Nat} {a : Act} {w : World} (s : Nat) (base c : World → Prop) (hm : P.follows .mixedOrders = true) (hb : base w.drew) (hc : c w.drew)
    (h : SM s base c (Array.replicate ops.size false) w.drew → wpM P .any ops Q s base c ops.size (Array.replicate ops.size false) a w.drew) : (Code.region id ops true).wp P Q a w := by
  have hcl : Closed .any ops (Array.replicate ops.size false) := fun j oj _ hl => by
    rw [getD_replicate_false] at hl
    cases hl
  exact wp_region_any hm (wpAny_of_M (s := s) (base := base) (c := c) _ _ _ _ (h ⟨hb, fun _ => hc⟩ hcl))
end
end Go.Proofs.Ytfaaahchcghnlaa.P
