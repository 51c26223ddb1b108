/- The pure side of the law RubyRoom. -/
import Derived.Test.YtijikaihmaganaaHRoom
import Derived.Test.YtijikaihmaganaaPureRef
namespace Go.Proofs.Ytijikaihmaganaa.Pure
open Go.RowKit Go.Proofs.Ytijikaihmaganaa.P Go.Proofs.YtijikaihmaganaaW.PrintWords Go.Proofs.YtijikaihmaganaaW.PrintLast
set_option linter.unusedVariables false
set_option linter.unusedSimpArgs false

theorem alive18 : frisketlaw18_alive.f = some true := by decide +kernel

theorem rd68_at (l : List S68) (i : Nat) (h : i < l.length) : rd_T68 l (i : Int) = l[i] := by
  unfold rd_T68; simp [List.getD_eq_getElem?_getD, List.getElem?_eq_getElem h]
theorem rd69_at (l : List S69) (i : Nat) (h : i < l.length) : rd_T69 l (i : Int) = l[i] := by
  unfold rd_T69; simp [List.getD_eq_getElem?_getD, List.getElem?_eq_getElem h]
theorem rd51_at (l : List S51) (i : Nat) (h : i < l.length) : rd_T51 l (i : Int) = l[i] := by
  unfold rd_T51; simp [List.getD_eq_getElem?_getD, List.getElem?_eq_getElem h]

/-- Small enough to be gone through. -/
def Fits (x : List S51) (l : List S68) : Prop := x.length ≤ 80 ∧ l.length ≤ 80 ∧ ∀ i : Nat, i < l.length → (rd_T68 l (i : Int)).f4.size ≤ 200

theorem fits_l0 (x : List S51) (l : List S68) : ∀ (d i : Nat) (k : Nat), 80 ≤ d + i → i ≤ 80 → i ≤ l.length → 2 * d + 2 ≤ k → (∀ j : Nat, j < i → (rd_T68 l (j : Int)).f4.size ≤ 200) →
    frisketlaw18_fits.l0 k x l (i : Int) = some false ∨ (frisketlaw18_fits.l0 k x l (i : Int) = some true ∧ Fits x l) := by
  intro d
  induction d with
  | zero =>
    intro i k hd hi80 hil hk hj
    obtain ⟨k, rfl⟩ : ∃ q, k = q + 1 + 1 := ⟨k - 2, by omega⟩
    have e : frisketlaw18_fits.l0 (k + 1 + 1) x l (i : Int) = (if (x.length : Int) ≤ 80 then (some (decide ((l.length : Int) ≤ 80))) else (some false)) := by
      unfold frisketlaw18_fits.l0
      have : decide ((i : Int) < 80) = false := decide_eq_false (by omega)
      rw [this]
      simp only [ite_self]
      unfold frisketlaw18_fits.j1
      rfl
    rw [e]
    by_cases h1 : (x.length : Int) ≤ 80
    · by_cases h2 : (l.length : Int) ≤ 80
      · right; rw [if_pos h1, decide_eq_true h2]
        exact ⟨rfl, by omega, by omega, fun j hj' => hj j (by omega)⟩
      · left; rw [if_pos h1, decide_eq_false h2]
    · left; rw [if_neg h1]
  | succ d ih =>
    intro i k hd hi80 hil hk hj
    obtain ⟨k, rfl⟩ : ∃ q, k = q + 1 + 1 := ⟨k - 2, by omega⟩
    by_cases hi : i < l.length ∧ i < 80
    · have e : frisketlaw18_fits.l0 (k + 1 + 1) x l (i : Int) = (if (((rd_T68 l (i : Int)).f4).size : Int) > 200 then (some false) else (frisketlaw18_fits.l0 k x l (wrap64 ((i : Int) + 1)))) := by
        conv => lhs; unfold frisketlaw18_fits.l0
        rw [if_pos (show (i : Int) < (l.length : Int) by omega)]
        conv => lhs; unfold frisketlaw18_fits.j1
        rw [if_pos (by simp; omega), if_pos (by omega), if_pos (by omega)]
      rw [e]
      by_cases hs : (((rd_T68 l (i : Int)).f4).size : Int) > 200
      · left; rw [if_pos hs]
      · rw [if_neg hs, w64 (by omega) (by omega)]
        exact ih (i + 1) k (by omega) (by omega) (by omega) (by omega) (fun j hj' => by
          by_cases hji : j = i
          · subst hji; omega
          · exact hj j (by omega))
    · have e : frisketlaw18_fits.l0 (k + 1 + 1) x l (i : Int) = (if (x.length : Int) ≤ 80 then (some (decide ((l.length : Int) ≤ 80))) else (some false)) := by
        unfold frisketlaw18_fits.l0
        by_cases h1 : (i : Int) < (l.length : Int)
        · rw [if_pos h1]
          have : decide ((i : Int) < 80) = false := decide_eq_false (by omega)
          rw [this]
          unfold frisketlaw18_fits.j1
          rfl
        · rw [if_neg h1]
          unfold frisketlaw18_fits.j1
          rfl
      rw [e]
      by_cases h1 : (x.length : Int) ≤ 80
      · by_cases h2 : (l.length : Int) ≤ 80
        · right; rw [if_pos h1, decide_eq_true h2]
          exact ⟨rfl, by omega, by omega, fun j hj' => hj j (by omega)⟩
        · left; rw [if_pos h1, decide_eq_false h2]
      · left; rw [if_neg h1]
theorem fits_f (x : List S51) (l : List S68) (k : Nat) (hk : 200 ≤ k) : frisketlaw18_fits.f k x l = some false ∨ (frisketlaw18_fits.f k x l = some true ∧ Fits x l) :=
  fits_l0 x l 80 0 k (by omega) (by omega) (by omega) (by omega) (fun j hj => by omega)

def cv (x : S51) : S69 := ⟨x.f0, x.f1, x.f2, x.f3, x.f4, x.f5, x.f6⟩
theorem items_l0 (x : List S51) (hx : x.length ≤ 80) : ∀ (d i : Nat) (o : List S69) (k : Nat), i + d = x.length → o.length ≤ i → d + 1 ≤ k → frisketlaw18_items.l0 k x o (i : Int) = some (o ++ (x.drop i).map cv) := by
  intro d
  induction d with
  | zero =>
    intro i o k hd ho hk
    obtain ⟨k, rfl⟩ : ∃ q, k = q + 1 := ⟨k - 1, by omega⟩
    unfold frisketlaw18_items.l0
    rw [if_neg (by omega), List.drop_eq_nil_of_le (by omega)]
    simp
  | succ d ih =>
    intro i o k hd ho hk
    obtain ⟨k, rfl⟩ : ∃ q, k = q + 1 := ⟨k - 1, by omega⟩
    unfold frisketlaw18_items.l0
    rw [if_pos (by omega), if_pos (by omega), if_pos (by omega), w64 (by omega) (by omega)]
    have := ih (i + 1) (o ++ [cv (rd_T51 x (i : Int))]) k (by omega) (by simp; omega) (by omega)
    refine (this.trans ?_)
    rw [List.drop_eq_getElem_cons (show i < x.length by omega), rd51_at x i (by omega)]
    simp only [List.map_cons, List.append_assoc, List.cons_append, List.nil_append]
theorem items_f (x : List S51) (hx : x.length ≤ 80) (k : Nat) (hk : 100 ≤ k) : frisketlaw18_items.f k x = some (x.map cv) := by
  have := items_l0 x hx x.length 0 [] k (by omega) (by simp) (by omega)
  simpa [frisketlaw18_items.f] using this

/-- A unit's items, and what stands beside them. -/
structure PartU (items : List S69) (a t : Nat) (sc : Int) : Prop where
  lt : a < t
  le : t ≤ items.length
  sc0 : 0 ≤ sc
  sc1 : sc ≤ 100000
  one : sc = 0 → t = a + 1
  own : 0 < sc → 0 ≤ (rd_T69 items (a : Int)).f4
  all : 0 < sc → ∀ k : Nat, a ≤ k → k < t → (rd_T69 items (k : Int)).f4 = (rd_T69 items (a : Int)).f4
def chainU (items : List S69) : Nat → List S49 → Nat → Prop
  | a, [], b => a = b
  | a, x :: r, b => ∃ (t : Nat) (sc : Int), x = unitU items a t sc ∧ PartU items a t sc ∧ chainU items t r b
theorem chain_app (items : List S69) : ∀ (p : List S49) (a b c : Nat) (q : List S49), chainU items a p b → chainU items b q c → chainU items a (p ++ q) c
  | [], a, b, c, q, h, hq => by cases h; exact hq
  | x :: r, a, b, c, q, ⟨t, sc, e, hp, h⟩, hq => ⟨t, sc, e, hp, chain_app items r t b c q h hq⟩
theorem chain_le (items : List S69) : ∀ (p : List S49) (a b : Nat), chainU items a p b → a + p.length ≤ b
  | [], a, b, h => by cases h; simp
  | x :: r, a, b, ⟨t, sc, e, hp, h⟩ => by have := chain_le items r t b h; have := hp.lt; simp only [List.length_cons]; omega
theorem beside_f (l : List S68) (hl : l.length ≤ 80) (hs : ∀ i : Nat, i < l.length → (rd_T68 l (i : Int)).f4.size ≤ 200) (n : Int) : ∃ k, ruby_beside.f l n = some k ∧ 0 ≤ k ∧ k ≤ 1000 ∧ (0 < k → 0 ≤ n) := by
  unfold ruby_beside.f
  by_cases c1 : n < 0
  · exact ⟨0, by rw [if_pos c1], by omega, by omega, by omega⟩
  rw [if_neg c1]
  by_cases c2 : (l.length : Int) ≤ n
  · exact ⟨0, by rw [if_pos c2], by omega, by omega, by omega⟩
  rw [if_neg c2]
  obtain ⟨i, rfl⟩ : ∃ i : Nat, n = (i : Int) := ⟨n.toNat, by omega⟩
  have hz := hs i (by omega)
  rw [if_pos (by omega)]
  have hlen : (bytesOf (rd_T68 l (i : Int)).f4).length = (rd_T68 l (i : Int)).f4.size := bytesOf_length _
  have hb : (bytesOf (rd_T68 l (i : Int)).f4).all byteB = true := by
    rw [List.all_eq_true]
    intro e he
    simp only [bytesOf, List.mem_map] at he
    obtain ⟨u, _, rfl⟩ := he
    have := u.toNat_lt
    simp [byteB]
    try omega
  rw [decode_f _ hb (by omega)]
  have := dec_len (bytesOf (rd_T68 l (i : Int)).f4) ((bytesOf (rd_T68 l (i : Int)).f4).length + 1) 0
  exact ⟨_, rfl, by omega, by omega, by omega⟩
theorem units_chain (items : List S69) (l : List S68) (hl : l.length ≤ 80) (hs : ∀ i : Nat, i < l.length → (rd_T68 l (i : Int)).f4.size ≤ 200) :
    ∀ (d i fr : Nat) (sc : Int) (o : List S49), d + i = items.length → chainU items 0 o fr → ((i = 0 ∧ fr = 0) ∨ PartU items fr i sc) → ∃ u, unitsG items l d i fr sc o = some u ∧ chainU items 0 u items.length := by
  intro d
  induction d with
  | zero =>
    intro i fr sc o hd ho hp
    unfold unitsG
    by_cases h : fr < items.length
    · rw [if_pos h]
      refine ⟨_, rfl, chain_app items _ _ _ _ _ ho ⟨items.length, sc, rfl, ?_, rfl⟩⟩
      rcases hp with hp | hp
      · omega
      · have : i = items.length := by omega
        rw [this] at hp; exact hp
    · rw [if_neg h]
      refine ⟨_, rfl, ?_⟩
      rcases hp with hp | hp
      · have : fr = items.length := by omega
        rw [this] at ho; exact ho
      · have := hp.lt; have := hp.le; omega
  | succ d ih =>
    intro i fr sc o hd ho hp
    unfold unitsG
    by_cases hg : goesU items fr i sc
    · rw [if_pos hg]
      obtain ⟨g1, g2, g3, g4⟩ := hg
      rcases hp with hp | hp
      · omega
      refine ih (i + 1) fr sc o (by omega) ho (.inr ⟨by omega, by omega, hp.sc0, hp.sc1, by omega, hp.own, fun h k hk hk' => ?_⟩)
      by_cases hki : k = i
      · subst hki; exact g3
      · exact hp.all h k hk (by omega)
    · rw [if_neg hg]
      obtain ⟨k, hk, k0, k1, k2⟩ := beside_f l hl hs (rd_T69 items (i : Int)).f4
      rw [hk, Option.bind_some, if_pos (by omega)]
      refine ih (i + 1) i k _ (by omega) ?_ (.inr ⟨by omega, by omega, k0, by omega, fun _ => rfl, k2, fun h j hj hj' => ?_⟩)
      · rcases hp with ⟨rfl, rfl⟩ | hp
        · rw [if_neg (by omega)]; exact ho
        · rw [if_pos (by have := hp.lt; omega)]
          exact chain_app items _ _ _ _ _ ho ⟨i, sc, rfl, hp, rfl⟩
      · have : j = i := by omega
        rw [this]
theorem units_f (x : List S51) (l : List S68) (h : Fits x l) : ∃ u, ruby_Units.f (x.map cv) l = some u ∧ chainU (x.map cv) 0 u x.length := by
  obtain ⟨h1, h2, h3⟩ := h
  unfold ruby_Units.f
  rw [if_pos (by simp; omega)]
  have := units_chain (x.map cv) l h2 h3 (x.map cv).length 0 0 0 [] (by omega) rfl (.inl ⟨rfl, rfl⟩)
  simpa using this

theorem rd49_mid (p : List S49) (x : S49) (q : List S49) : rd_T49 (p ++ x :: q) (p.length : Int) = x := by
  unfold rd_T49
  simp [List.getD_eq_getElem?_getD]
theorem conv4 (x : List S51) (i : Nat) (h : i < x.length) : (rd_T69 (x.map cv) (i : Int)).f4 = (rd_T51 x (i : Int)).f4 := by
  rw [rd69_at _ _ (by simpa using h), rd51_at _ _ h]
  simp [cv]
/-- Where items begin, one behind the other. -/
def sts : Int → List S69 → List Int
  | _, [] => []
  | at_, x :: r => at_ :: sts (at_ + reachU x) r
theorem sts_len : ∀ (l : List S69) (c : Int), (sts c l).length = l.length
  | [], c => rfl
  | x :: r, c => by simp [sts, sts_len r]
theorem starts_l0 (y : List S69) (hy : y.length ≤ 80) : ∀ (d i : Nat) (o : List Int) (c : Int) (k : Nat), i + d = y.length → o.length ≤ i → d + 1 ≤ k → 0 ≤ c → c + 128 * d ≤ 1000000 →
    ruby_Starts.l0 k o c y (y.length : Int) (i : Int) = some (o ++ sts c (y.drop i)) := by
  intro d
  induction d with
  | zero =>
    intro i o c k hd ho hk hc hc'
    obtain ⟨k, rfl⟩ : ∃ q, k = q + 1 := ⟨k - 1, by omega⟩
    unfold ruby_Starts.l0
    rw [if_neg (by omega), List.drop_eq_nil_of_le (by omega)]
    simp [sts]
  | succ d ih =>
    intro i o c k hd ho hk hc hc'
    obtain ⟨k, rfl⟩ : ∃ q, k = q + 1 := ⟨k - 1, by omega⟩
    have hr := reachU_in (rd_T69 y (i : Int))
    have e : ruby_reach.f (rd_T69 y (i : Int)).f0 (rd_T69 y (i : Int)).f1 (rd_T69 y (i : Int)).f2 (rd_T69 y (i : Int)).f3 (rd_T69 y (i : Int)).f4 (rd_T69 y (i : Int)).f5 (rd_T69 y (i : Int)).f6 = some (reachU (rd_T69 y (i : Int))) := rfl
    have ih' := ih (i + 1) (o ++ [c]) (c + reachU (rd_T69 y (i : Int))) k (by omega) (by simp; omega) (by omega) (by omega) (by omega)
    unfold ruby_Starts.l0
    rw [if_pos (by omega), if_pos (by omega), if_pos (by omega), if_pos (by omega), e, Option.bind_some, w64 (by omega) (by omega), w64 (by omega) (by omega)]
    refine (ih'.trans ?_)
    rw [List.drop_eq_getElem_cons (show i < y.length by omega), rd69_at y i (by omega)]
    simp only [sts, List.append_assoc, List.cons_append, List.nil_append]
theorem starts_f (items : List S69) (hl : items.length ≤ 80) (a t : Nat) (sc : Int) (hp : PartU items a t sc) (k : Nat) (hk : 100 ≤ k) (c r d e f g : Int) (hc : 0 ≤ c) (hc' : c ≤ 900000) :
    ruby_Starts.f k items (a : Int) (t : Int) r c d e f g = some (sts c ((items.take t).drop a)) := by
  have h1 := hp.lt
  have h2 := hp.le
  obtain ⟨k, rfl⟩ : ∃ q, k = q + 1 := ⟨k - 1, by omega⟩
  unfold ruby_Starts.f
  rw [if_neg (by omega), if_neg (by omega), decide_eq_false (by omega)]
  rw [ruby_Starts.j0, if_neg (by simp), if_pos (by omega), if_pos (by omega), if_pos (by omega), Option.bind_some]
  have hn : ((items.take t).drop a).length = t - a := by simp; omega
  have := starts_l0 ((items.take t).drop a) (by omega) (t - a) 0 [] c k (by omega) (by simp) (by omega) hc (by omega)
  simpa using this
theorem rd_drop (s : List Int) (j : Nat) (c : Int) (r : List Int) (h : s.drop j = c :: r) : rd s (j : Int) = c ∧ s.drop (j + 1) = r := by
  constructor
  · have h1 : s[j]? = some c := by rw [← List.head?_drop, h]; rfl
    unfold rd
    simp [List.getD_eq_getElem?_getD, h1]
  · rw [← List.drop_drop, h]; rfl
theorem part_at (items : List S69) (a t j : Nat) (hj : a + j < t) (ht : t ≤ items.length) : ((items.take t).drop a).drop j = rd_T69 items ((a + j : Nat) : Int) :: ((items.take t).drop a).drop (j + 1) := by
  have hl : j < ((items.take t).drop a).length := by simp; omega
  rw [List.drop_eq_getElem_cons hl, rd69_at items (a + j) (by omega)]
  congr 1
  simp
theorem ref_reach (x : List S51) (i : Nat) (h : i < x.length) : frisketref18_Reach.f (rd_T51 x (i : Int)).f0 (rd_T51 x (i : Int)).f1 (rd_T51 x (i : Int)).f2 (rd_T51 x (i : Int)).f3 (rd_T51 x (i : Int)).f4 (rd_T51 x (i : Int)).f5 (rd_T51 x (i : Int)).f6 = some (reachU (rd_T69 (x.map cv) (i : Int))) := by
  rw [rd69_at _ _ (by simpa using h), rd51_at _ _ h]
  simp only [List.getElem_map]
  rfl
theorem wn1 (j : Nat) (h : j ≤ 1000000) : wrap64 ((j : Int) + 1) = ((j + 1 : Nat) : Int) := by rw [w64 (by omega) (by omega)]; omega
theorem wn2 (a j : Nat) (h : a + j ≤ 1000000) : wrap64 ((a : Int) + (j : Int)) = ((a + j : Nat) : Int) := by rw [w64 (by omega) (by omega)]; omega
section
variable (x : List S51) (hx : x.length ≤ 80) (p : List S49) (a t : Nat) (sc : Int) (q : List S49) (hp : PartU (x.map cv) a t sc)
include hx hp
theorem room_l1 (hpl : p.length ≤ 80) (c : Int) (hc : 0 ≤ c) (hc' : c ≤ 900000) (k : Nat) (R : Option Bool)
    (hend : ∀ e : Int, e = c + baseU (((x.map cv).take t).drop a) → frisketlaw18_RubyRoom.l1 (k + 1) x (p ++ unitU (x.map cv) a t sc :: q) (p.length : Int) (sts c (((x.map cv).take t).drop a)) e ((t - a : Nat) : Int) = R) :
    ∀ (d j : Nat) (e : Int), d + j = t - a → (sts c (((x.map cv).take t).drop a)).drop j = sts e ((((x.map cv).take t).drop a).drop j) → e + baseU ((((x.map cv).take t).drop a).drop j) = c + baseU (((x.map cv).take t).drop a) → 0 ≤ e → e + 128 * d ≤ 1000000 →
      frisketlaw18_RubyRoom.l1 (k + d + 1) x (p ++ unitU (x.map cv) a t sc :: q) (p.length : Int) (sts c (((x.map cv).take t).drop a)) e (j : Int) = R := by
  have h1 := hp.lt
  have h2 := hp.le
  rw [List.length_map] at h2
  have hsl : (sts c (((x.map cv).take t).drop a)).length = t - a := by rw [sts_len]; simp; omega
  intro d
  induction d with
  | zero =>
    intro j e hd hs hb he he'
    obtain rfl : j = t - a := by omega
    refine hend e ?_
    rw [← hb, List.drop_eq_nil_of_le (by simp; omega)]
    simp [baseU]
  | succ d ih =>
    intro j e hd hs hb he he'
    have hpa := part_at (x.map cv) a t j (by omega) (by simp; omega)
    rw [hpa] at hs hb
    simp only [sts, baseU] at hs hb
    have hr := reachU_in (rd_T69 (x.map cv) ((a + j : Nat) : Int))
    obtain ⟨hs1, hs2⟩ := rd_drop _ _ _ _ hs
    have ih' := ih (j + 1) (e + reachU (rd_T69 (x.map cv) ((a + j : Nat) : Int))) (by omega) hs2 (by omega) (by omega) (by omega)
    have hk : k + (d + 1) + 1 = k + d + 1 + 1 := by omega
    rw [hk]
    conv => lhs; unfold frisketlaw18_RubyRoom.l1
    have f0 : (unitU (x.map cv) a t sc).f0 = (a : Int) := rfl
    rw [if_pos (by omega), if_pos (by omega), if_pos hs1, if_pos (by omega), if_pos (by simp; omega), rd49_mid, f0, wn2 a j (by omega), if_pos (by omega), if_pos (by omega), ref_reach x (a + j) (by omega), Option.bind_some, wn1 j (by omega), w64 (by omega) (by omega)]
    exact ih'
end
theorem room_l0 (x : List S51) (hx : x.length ≤ 80) : ∀ (q p : List S49) (a k : Nat), (p ++ q).length ≤ 80 → chainU (x.map cv) 0 p a → chainU (x.map cv) a q x.length → 4 * (x.length - a) + 205 ≤ k →
    frisketlaw18_RubyRoom.l0 k x (p ++ q) (p.length : Int) = some true := by
  intro q
  induction q with
  | nil =>
    intro p a k hl hp hq hk
    obtain ⟨k, rfl⟩ : ∃ q, k = q + 1 := ⟨k - 1, by omega⟩
    unfold frisketlaw18_RubyRoom.l0
    rw [List.append_nil, if_neg (by omega), alive18]
    rfl
  | cons u q ih =>
    intro p a k hl hp hq hk
    obtain ⟨t, sc, e, hpt, hq⟩ := hq
    have hlt := hpt.lt
    have hle := hpt.le
    rw [List.length_map] at hle
    subst e
    have hpl : p.length ≤ 80 := by simp at hl; omega
    have ih' := ih (p ++ [unitU (x.map cv) a t sc]) t (k - (t - a) - 3) (by simpa using hl) (chain_app _ _ _ _ _ _ hp ⟨t, sc, rfl, hpt, rfl⟩) hq (by omega)
    rw [List.append_assoc, List.singleton_append, List.length_append, List.length_singleton] at ih'
    obtain ⟨k, rfl⟩ : ∃ q, k = q + (t - a) + 1 + 1 + 1 := ⟨k - (t - a) - 3, by omega⟩
    have hk' : k + (t - a) + 1 + 1 + 1 - (t - a) - 3 = k := by omega
    rw [hk'] at ih'
    -- the unit's measures
    obtain ⟨b, hb⟩ : ∃ b, baseU (((x.map cv).take t).drop a) = b := ⟨_, rfl⟩
    have hbi := baseU_in (((x.map cv).take t).drop a)
    have hyl : (((x.map cv).take t).drop a).length = t - a := by simp; omega
    rw [hb, hyl] at hbi
    obtain ⟨dd, hdd⟩ : ∃ dd, (sc + 1) / 2 = dd := ⟨_, rfl⟩
    have hd0 : 0 ≤ dd ∧ dd ≤ 100000 := by have := hpt.sc0; have := hpt.sc1; omega
    obtain ⟨r, hr⟩ : ∃ r, (if b < dd then dd else b) = r := ⟨_, rfl⟩
    have hr0 : b ≤ r ∧ dd ≤ r ∧ (r = b ∨ r = dd) ∧ r ≤ 200000 := by rw [← hr]; split <;> omega
    have f0 : (unitU (x.map cv) a t sc).f0 = (a : Int) := rfl
    have f1 : (unitU (x.map cv) a t sc).f1 = (t : Int) := rfl
    have f2 : (unitU (x.map cv) a t sc).f2 = r := by
      show (if baseU (((x.map cv).take t).drop a) < (sc + 1) / 2 then (sc + 1) / 2 else baseU (((x.map cv).take t).drop a)) = r
      rw [hb, hdd, hr]
    have f3 : (unitU (x.map cv) a t sc).f3 = (r - b) / 2 := by
      show ((if baseU (((x.map cv).take t).drop a) < (sc + 1) / 2 then (sc + 1) / 2 else baseU (((x.map cv).take t).drop a)) - baseU (((x.map cv).take t).drop a)) / 2 = _
      rw [hb, hdd, hr]
    have f4 : (unitU (x.map cv) a t sc).f4 = dd := hdd
    have f5 : (unitU (x.map cv) a t sc).f5 = (r - dd) / 2 := by
      show ((if baseU (((x.map cv).take t).drop a) < (sc + 1) / 2 then (sc + 1) / 2 else baseU (((x.map cv).take t).drop a)) - (sc + 1) / 2) / 2 = _
      rw [hb, hdd, hr]
    obtain ⟨c, hc⟩ : ∃ c, (r - b) / 2 = c := ⟨_, rfl⟩
    obtain ⟨g, hg⟩ : ∃ g, (r - dd) / 2 = g := ⟨_, rfl⟩
    rw [hc] at f3
    rw [hg] at f5
    have hsl : (sts c (((x.map cv).take t).drop a)).length = t - a := by rw [sts_len, hyl]
    have hend : ∀ e : Int, e = c + baseU (((x.map cv).take t).drop a) → frisketlaw18_RubyRoom.l1 (k + 1) x (p ++ unitU (x.map cv) a t sc :: q) (p.length : Int) (sts c (((x.map cv).take t).drop a)) e ((t - a : Nat) : Int) = some true := by
      intro e he
      rw [hb] at he
      unfold frisketlaw18_RubyRoom.l1
      rw [if_neg (by omega), if_pos (by omega), if_pos (by simp; omega), rd49_mid, f2, f3, f4, f5]
      have e1 : wrap64 (r - e) = r - e := w64 (by omega) (by omega)
      have e2 : wrap64 (c + 1) = c + 1 := w64 (by omega) (by omega)
      have e3 : wrap64 (r - dd) = r - dd := w64 (by omega) (by omega)
      have e4 : wrap64 (r - dd - g) = r - dd - g := w64 (by omega) (by omega)
      have e5 : wrap64 (g + 1) = g + 1 := w64 (by omega) (by omega)
      have e6 : wrap64 (e - c) = e - c := w64 (by omega) (by omega)
      have e7 := wn1 p.length (by omega)
      rw [e1, e2, e3, e4, e5, e6, e7, if_neg (by omega), if_neg (by omega), if_neg (by omega), if_neg (by omega), ih']
      by_cases hh : e - c = r
      · rw [if_pos hh]
      · rw [if_neg hh, if_pos (by omega)]
    have h1 := room_l1 x hx p a t sc q hpt hpl c (by omega) (by omega) k (some true) hend (t - a) 0 c (by omega) rfl rfl (by omega) (by omega)
    have hs0 : rd (sts c (((x.map cv).take t).drop a)) 0 = c := by
      have := part_at (x.map cv) a t 0 (by omega) (by simp; omega)
      rw [List.drop_zero] at this
      rw [this]
      rfl
    have hj : frisketlaw18_RubyRoom.j1 (k + (t - a) + 1 + 1) x (p ++ unitU (x.map cv) a t sc :: q) (p.length : Int) (sts c (((x.map cv).take t).drop a)) false = some true := by
      unfold frisketlaw18_RubyRoom.j1
      rw [if_neg (by simp), if_pos (by omega), hs0]
      exact h1
    have hst := fun f g' h' i' => starts_f (x.map cv) (by simpa using hx) a t sc hpt (k + (t - a) + 1 + 1) (by omega) c f g' h' i' 
    unfold frisketlaw18_RubyRoom.l0
    rw [if_pos (by simp; omega), items_f x hx _ (by omega), Option.bind_some, if_pos (by omega), rd49_mid, f0, f1, f3, hst _ _ _ _ _ (by omega) (by omega), Option.bind_some, w64 (by omega) (by omega), if_pos (by omega), if_neg (by omega), if_neg (by omega), f5, if_neg (by omega), if_pos (by omega), hs0]
    rw [show (c != c) = false by simp]
    exact hj
theorem RubyRoom (l0 : List (S51)) (l1 : List (S68)) : ∃ k, frisketlaw18_RubyRoom.f k l0 l1 = some true := by
  refine ⟨1000, ?_⟩
  unfold frisketlaw18_RubyRoom.f
  rcases fits_f l0 l1 1000 (by omega) with h | ⟨h, hf⟩
  · rw [h, Option.bind_some, if_neg (by simp), alive18]; rfl
  · obtain ⟨u, hu, hc⟩ := units_f l0 l1 hf
    have hx := hf.1
    have hul := chain_le _ _ _ _ hc
    rw [h, Option.bind_some, if_pos rfl, items_f l0 hx 1000 (by omega), Option.bind_some, hu, Option.bind_some]
    exact room_l0 l0 hx u [] 0 1000 (by simp; omega) rfl hc (by omega)
end Go.Proofs.Ytijikaihmaganaa.Pure
