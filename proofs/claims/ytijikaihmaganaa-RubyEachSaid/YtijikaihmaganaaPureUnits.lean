/- What ruby.Units makes: units that follow one another, in plain Lean. -/
import Derived.Test.YtijikaihmaganaaP19
import Derived.Test.YtijikaihmaganaaP22
import Derived.Test.YtijikaihmaganaaP21
import Derived.Test.YtijikaihmaganaaPureRef
import Derived.Test.YtijikaihmaganaaHUnits
namespace Go.Proofs.Ytijikaihmaganaa.Pure
open Go.RowKit Go.Proofs.Ytijikaihmaganaa.P Go.Proofs.YtijikaihmaganaaW.PrintWords Go.Proofs.YtijikaihmaganaaW.PrintLast
set_option linter.unusedVariables false
set_option linter.unusedSimpArgs false

theorem alive18 : frisketlaw18_alive.f = some true := by decide +kernel

theorem rd68_at (l : List S68) (i : Nat) (h : i < l.length) : rd_T68 l (i : Int) = l[i] := by
  unfold rd_T68; simp [List.getD_eq_getElem?_getD, List.getElem?_eq_getElem h]
theorem rd69_at (l : List S69) (i : Nat) (h : i < l.length) : rd_T69 l (i : Int) = l[i] := by
  unfold rd_T69; simp [List.getD_eq_getElem?_getD, List.getElem?_eq_getElem h]
theorem rd51_at (l : List S51) (i : Nat) (h : i < l.length) : rd_T51 l (i : Int) = l[i] := by
  unfold rd_T51; simp [List.getD_eq_getElem?_getD, List.getElem?_eq_getElem h]

/-- Small enough to be gone through. -/
def Fits (x : List S51) (l : List S68) : Prop := x.length ≤ 80 ∧ l.length ≤ 80 ∧ ∀ i : Nat, i < l.length → (rd_T68 l (i : Int)).f4.size ≤ 200

theorem fits_l0 (x : List S51) (l : List S68) : ∀ (d i : Nat) (k : Nat), 80 ≤ d + i → i ≤ 80 → i ≤ l.length → 2 * d + 2 ≤ k → (∀ j : Nat, j < i → (rd_T68 l (j : Int)).f4.size ≤ 200) →
    frisketlaw18_fits.l0 k x l (i : Int) = some false ∨ (frisketlaw18_fits.l0 k x l (i : Int) = some true ∧ Fits x l) := by
  intro d
  induction d with
  | zero =>
    intro i k hd hi80 hil hk hj
    obtain ⟨k, rfl⟩ : ∃ q, k = q + 1 + 1 := ⟨k - 2, by omega⟩
    have e : frisketlaw18_fits.l0 (k + 1 + 1) x l (i : Int) = (if (x.length : Int) ≤ 80 then (some (decide ((l.length : Int) ≤ 80))) else (some false)) := by
      unfold frisketlaw18_fits.l0
      have : decide ((i : Int) < 80) = false := decide_eq_false (by omega)
      rw [this]
      simp only [ite_self]
      unfold frisketlaw18_fits.j1
      rfl
    rw [e]
    by_cases h1 : (x.length : Int) ≤ 80
    · by_cases h2 : (l.length : Int) ≤ 80
      · right; rw [if_pos h1, decide_eq_true h2]
        exact ⟨rfl, by omega, by omega, fun j hj' => hj j (by omega)⟩
      · left; rw [if_pos h1, decide_eq_false h2]
    · left; rw [if_neg h1]
  | succ d ih =>
    intro i k hd hi80 hil hk hj
    obtain ⟨k, rfl⟩ : ∃ q, k = q + 1 + 1 := ⟨k - 2, by omega⟩
    by_cases hi : i < l.length ∧ i < 80
    · have e : frisketlaw18_fits.l0 (k + 1 + 1) x l (i : Int) = (if (((rd_T68 l (i : Int)).f4).size : Int) > 200 then (some false) else (frisketlaw18_fits.l0 k x l (wrap64 ((i : Int) + 1)))) := by
        conv => lhs; unfold frisketlaw18_fits.l0
        rw [if_pos (show (i : Int) < (l.length : Int) by omega)]
        conv => lhs; unfold frisketlaw18_fits.j1
        rw [if_pos (by simp; omega), if_pos (by omega), if_pos (by omega)]
      rw [e]
      by_cases hs : (((rd_T68 l (i : Int)).f4).size : Int) > 200
      · left; rw [if_pos hs]
      · rw [if_neg hs, w64 (by omega) (by omega)]
        exact ih (i + 1) k (by omega) (by omega) (by omega) (by omega) (fun j hj' => by
          by_cases hji : j = i
          · subst hji; omega
          · exact hj j (by omega))
    · have e : frisketlaw18_fits.l0 (k + 1 + 1) x l (i : Int) = (if (x.length : Int) ≤ 80 then (some (decide ((l.length : Int) ≤ 80))) else (some false)) := by
        unfold frisketlaw18_fits.l0
        by_cases h1 : (i : Int) < (l.length : Int)
        · rw [if_pos h1]
          have : decide ((i : Int) < 80) = false := decide_eq_false (by omega)
          rw [this]
          unfold frisketlaw18_fits.j1
          rfl
        · rw [if_neg h1]
          unfold frisketlaw18_fits.j1
          rfl
      rw [e]
      by_cases h1 : (x.length : Int) ≤ 80
      · by_cases h2 : (l.length : Int) ≤ 80
        · right; rw [if_pos h1, decide_eq_true h2]
          exact ⟨rfl, by omega, by omega, fun j hj' => hj j (by omega)⟩
        · left; rw [if_pos h1, decide_eq_false h2]
      · left; rw [if_neg h1]
theorem fits_f (x : List S51) (l : List S68) (k : Nat) (hk : 200 ≤ k) : frisketlaw18_fits.f k x l = some false ∨ (frisketlaw18_fits.f k x l = some true ∧ Fits x l) :=
  fits_l0 x l 80 0 k (by omega) (by omega) (by omega) (by omega) (fun j hj => by omega)

def cv (x : S51) : S69 := ⟨x.f0, x.f1, x.f2, x.f3, x.f4, x.f5, x.f6⟩
theorem items_l0 (x : List S51) (hx : x.length ≤ 80) : ∀ (d i : Nat) (o : List S69) (k : Nat), i + d = x.length → o.length ≤ i → d + 1 ≤ k → frisketlaw18_items.l0 k x o (i : Int) = some (o ++ (x.drop i).map cv) := by
  intro d
  induction d with
  | zero =>
    intro i o k hd ho hk
    obtain ⟨k, rfl⟩ : ∃ q, k = q + 1 := ⟨k - 1, by omega⟩
    unfold frisketlaw18_items.l0
    rw [if_neg (by omega), List.drop_eq_nil_of_le (by omega)]
    simp
  | succ d ih =>
    intro i o k hd ho hk
    obtain ⟨k, rfl⟩ : ∃ q, k = q + 1 := ⟨k - 1, by omega⟩
    unfold frisketlaw18_items.l0
    rw [if_pos (by omega), if_pos (by omega), if_pos (by omega), w64 (by omega) (by omega)]
    have := ih (i + 1) (o ++ [cv (rd_T51 x (i : Int))]) k (by omega) (by simp; omega) (by omega)
    refine (this.trans ?_)
    rw [List.drop_eq_getElem_cons (show i < x.length by omega), rd51_at x i (by omega)]
    simp only [List.map_cons, List.append_assoc, List.cons_append, List.nil_append]
theorem items_f (x : List S51) (hx : x.length ≤ 80) (k : Nat) (hk : 100 ≤ k) : frisketlaw18_items.f k x = some (x.map cv) := by
  have := items_l0 x hx x.length 0 [] k (by omega) (by simp) (by omega)
  simpa [frisketlaw18_items.f] using this

/-- A unit's items, and what stands beside them. -/
structure PartU (items : List S69) (a t : Nat) (sc : Int) : Prop where
  lt : a < t
  le : t ≤ items.length
  sc0 : 0 ≤ sc
  sc1 : sc ≤ 100000
  one : sc = 0 → t = a + 1
  own : 0 < sc → 0 ≤ (rd_T69 items (a : Int)).f4
  all : 0 < sc → ∀ k : Nat, a ≤ k → k < t → (rd_T69 items (k : Int)).f4 = (rd_T69 items (a : Int)).f4
def chainU (items : List S69) : Nat → List S49 → Nat → Prop
  | a, [], b => a = b
  | a, x :: r, b => ∃ (t : Nat) (sc : Int), x = unitU items a t sc ∧ PartU items a t sc ∧ chainU items t r b
theorem chain_app (items : List S69) : ∀ (p : List S49) (a b c : Nat) (q : List S49), chainU items a p b → chainU items b q c → chainU items a (p ++ q) c
  | [], a, b, c, q, h, hq => by cases h; exact hq
  | x :: r, a, b, c, q, ⟨t, sc, e, hp, h⟩, hq => ⟨t, sc, e, hp, chain_app items r t b c q h hq⟩
theorem chain_le (items : List S69) : ∀ (p : List S49) (a b : Nat), chainU items a p b → a + p.length ≤ b
  | [], a, b, h => by cases h; simp
  | x :: r, a, b, ⟨t, sc, e, hp, h⟩ => by have := chain_le items r t b h; have := hp.lt; simp only [List.length_cons]; omega
theorem beside_f (l : List S68) (hl : l.length ≤ 80) (hs : ∀ i : Nat, i < l.length → (rd_T68 l (i : Int)).f4.size ≤ 200) (n : Int) : ∃ k, ruby_beside.f l n = some k ∧ 0 ≤ k ∧ k ≤ 1000 ∧ (0 < k → 0 ≤ n) := by
  unfold ruby_beside.f
  by_cases c1 : n < 0
  · exact ⟨0, by rw [if_pos c1], by omega, by omega, by omega⟩
  rw [if_neg c1]
  by_cases c2 : (l.length : Int) ≤ n
  · exact ⟨0, by rw [if_pos c2], by omega, by omega, by omega⟩
  rw [if_neg c2]
  obtain ⟨i, rfl⟩ : ∃ i : Nat, n = (i : Int) := ⟨n.toNat, by omega⟩
  have hz := hs i (by omega)
  rw [if_pos (by omega)]
  have hlen : (bytesOf (rd_T68 l (i : Int)).f4).length = (rd_T68 l (i : Int)).f4.size := bytesOf_length _
  have hb : (bytesOf (rd_T68 l (i : Int)).f4).all byteB = true := by
    rw [List.all_eq_true]
    intro e he
    simp only [bytesOf, List.mem_map] at he
    obtain ⟨u, _, rfl⟩ := he
    have := u.toNat_lt
    simp [byteB]
    try omega
  rw [decode_f _ hb (by omega)]
  have := dec_len (bytesOf (rd_T68 l (i : Int)).f4) ((bytesOf (rd_T68 l (i : Int)).f4).length + 1) 0
  exact ⟨_, rfl, by omega, by omega, by omega⟩
theorem units_chain (items : List S69) (l : List S68) (hl : l.length ≤ 80) (hs : ∀ i : Nat, i < l.length → (rd_T68 l (i : Int)).f4.size ≤ 200) :
    ∀ (d i fr : Nat) (sc : Int) (o : List S49), d + i = items.length → chainU items 0 o fr → ((i = 0 ∧ fr = 0) ∨ PartU items fr i sc) → ∃ u, unitsG items l d i fr sc o = some u ∧ chainU items 0 u items.length := by
  intro d
  induction d with
  | zero =>
    intro i fr sc o hd ho hp
    unfold unitsG
    by_cases h : fr < items.length
    · rw [if_pos h]
      refine ⟨_, rfl, chain_app items _ _ _ _ _ ho ⟨items.length, sc, rfl, ?_, rfl⟩⟩
      rcases hp with hp | hp
      · omega
      · have : i = items.length := by omega
        rw [this] at hp; exact hp
    · rw [if_neg h]
      refine ⟨_, rfl, ?_⟩
      rcases hp with hp | hp
      · have : fr = items.length := by omega
        rw [this] at ho; exact ho
      · have := hp.lt; have := hp.le; omega
  | succ d ih =>
    intro i fr sc o hd ho hp
    unfold unitsG
    by_cases hg : goesU items fr i sc
    · rw [if_pos hg]
      obtain ⟨g1, g2, g3, g4⟩ := hg
      rcases hp with hp | hp
      · omega
      refine ih (i + 1) fr sc o (by omega) ho (.inr ⟨by omega, by omega, hp.sc0, hp.sc1, by omega, hp.own, fun h k hk hk' => ?_⟩)
      by_cases hki : k = i
      · subst hki; exact g3
      · exact hp.all h k hk (by omega)
    · rw [if_neg hg]
      obtain ⟨k, hk, k0, k1, k2⟩ := beside_f l hl hs (rd_T69 items (i : Int)).f4
      rw [hk, Option.bind_some, if_pos (by omega)]
      refine ih (i + 1) i k _ (by omega) ?_ (.inr ⟨by omega, by omega, k0, by omega, fun _ => rfl, k2, fun h j hj hj' => ?_⟩)
      · rcases hp with ⟨rfl, rfl⟩ | hp
        · rw [if_neg (by omega)]; exact ho
        · rw [if_pos (by have := hp.lt; omega)]
          exact chain_app items _ _ _ _ _ ho ⟨i, sc, rfl, hp, rfl⟩
      · have : j = i := by omega
        rw [this]
theorem units_f (x : List S51) (l : List S68) (h : Fits x l) : ∃ u, ruby_Units.f (x.map cv) l = some u ∧ chainU (x.map cv) 0 u x.length := by
  obtain ⟨h1, h2, h3⟩ := h
  unfold ruby_Units.f
  rw [if_pos (by simp; omega)]
  have := units_chain (x.map cv) l h2 h3 (x.map cv).length 0 0 0 [] (by omega) rfl (.inl ⟨rfl, rfl⟩)
  simpa using this

theorem rd49_mid (p : List S49) (x : S49) (q : List S49) : rd_T49 (p ++ x :: q) (p.length : Int) = x := by
  unfold rd_T49
  simp [List.getD_eq_getElem?_getD]
theorem conv4 (x : List S51) (i : Nat) (h : i < x.length) : (rd_T69 (x.map cv) (i : Int)).f4 = (rd_T51 x (i : Int)).f4 := by
  rw [rd69_at _ _ (by simpa using h), rd51_at _ _ h]
  simp [cv]
end Go.Proofs.Ytijikaihmaganaa.Pure
