/- The sheet's map: cells and owners, as a list of entries. -/
import Derived.Test.YtpljnkfbcgdafaaP0
import Derived.DeepKeys4
import Derived.Maps.OwnIn
import Derived.Maps.OwnSet
import Derived.Maps.RangeWalk
import Derived.Maps.OwnOps
import Derived.Maps.Ext
import Derived.Maps.Views
namespace Go.Proofs.Ytpljnkfbcgdafaa.P
open Go.RowKit Go.Proofs.YtpljnkfbcgdafaaW.PrintWords Go.Proofs.YtpljnkfbcgdafaaW.PrintLast Go.Proofs.YtpljnkfbcgdafaaW.PrintMore
open Go.ChangeShapes Go.WideShapes Go.Maps
set_option linter.unusedVariables false
set_option linter.unusedSimpArgs false

theorem laidOutT : laidOutB Try.prog = true := by kernel_rfl
theorem row57 : (57 : TypeId) < Try.prog.types.size := of_decide_eq_true (by kernel_rfl)
theorem wide57 : (match Try.prog.underlying 57 with | some (.array _ _) | some (.struct _) => true | _ => false) = true := by rw [Try.underlying57]
theorem law57 : Keyed Try.prog 57 := Keyed.of_law (deep_law_laid laidOutT (m := 2) (by omega) row57 (by kernel_rfl) wide57)
/-- A cell, as a map's key. -/
def cv (x y : Int) : Value := .agg #[.int .i64 x, .int .i64 y]
def inK (x : Int) : Prop := (Lit.int .i64 x).wf = true
theorem cells57 : Try.prog.cellsOf 57 = 2 := by kernel_rfl
theorem keyT57 : Try.prog.keyType 57 = true := by kernel_rfl
theorem keyOf_cv (x y : Int) (hx : inK x) (hy : inK y) : keyOf Try.prog 57 (cv x y) = some (.string (keyBytes [.int .i64 x, .int .i64 y])) := by
  have c3 : Try.prog.cellsOf 3 = 1 := by kernel_rfl
  have k3 : ∀ n : Int, inK n → Try.prog.keyLits 115 3 [Value.int .i64 n] = some [Lit.int .i64 n] := by
    intro n hn
    unfold Program.keyLits
    rw [Try.underlying3]
    simp only [true_and]
    rw [if_pos (show (Lit.int .i64 n).wf = true from hn)]
  unfold keyOf
  rw [Try.underlying57]
  simp only []
  rw [keyT57]
  simp only [cv, Value.formed, Try.underlying57, cells57]
  unfold Program.keyLits
  rw [Try.underlying57]
  simp only [Value.cells, cells57]
  have h2 : Try.prog.types.size = 115 := by kernel_rfl
  simp [c3, h2, k3 _ hx, k3 _ hy]
def kyL (x y : Int) : Lit := .string (keyBytes [.int .i64 x, .int .i64 y])
theorem keyOf_inv {v : Value} {kl : Lit} (h : keyOf Try.prog 57 v = some kl) : ∃ x y, v = cv x y ∧ inK x ∧ inK y ∧ kl = kyL x y := by
  have c3 : Try.prog.cellsOf 3 = 1 := by kernel_rfl
  have h2 : Try.prog.types.size = 115 := by kernel_rfl
  have k3 : ∀ (c : Value) (l : List Lit), Try.prog.keyLits 115 3 [c] = some l → ∃ n, c = .int .i64 n ∧ inK n := by
    intro c l hl
    unfold Program.keyLits at hl
    rw [Try.underlying3] at hl
    cases c <;> simp at hl
    obtain ⟨⟨rfl, h⟩, _⟩ := hl
    exact ⟨_, rfl, h⟩
  have h0 := h
  unfold keyOf at h
  rw [Try.underlying57] at h
  simp only [] at h
  rw [keyT57] at h
  cases v <;> simp [Value.formed, Try.underlying57, cells57] at h
  rename_i cs
  obtain ⟨hsz, ls, hl, rfl⟩ := h
  obtain ⟨a, b, rfl⟩ : ∃ a b, cs = #[a, b] := by
    obtain ⟨l⟩ := cs
    match l, hsz with
    | [a, b], _ => exact ⟨a, b, rfl⟩
  unfold Program.keyLits at hl
  rw [Try.underlying57] at hl
  simp only [Value.cells, cells57] at hl
  simp [c3, h2, Option.bind_eq_some_iff] at hl
  obtain ⟨l1, hl1, l2, ⟨l3, hl3, rfl⟩, rfl⟩ := hl
  obtain ⟨x, rfl, hx⟩ := k3 _ _ hl1
  obtain ⟨y, rfl, hy⟩ := k3 _ _ hl3
  have h3 := keyOf_cv x y hx hy
  have h4 : keyOf Try.prog 57 (cv x y) = some (.string (keyBytes (l1 ++ [l3].flatten))) := h0
  rw [h3] at h4
  exact ⟨x, y, rfl, hx, hy, (Option.some.inj h4).symm⟩
theorem kyL_inj {x y x' y' : Int} (hx : inK x) (hy : inK y) (hx' : inK x') (hy' : inK y') (h : kyL x y = kyL x' y') : x = x' ∧ y = y' := by
  have h1 : keyOf Try.prog 57 (cv x y) = some (kyL x y) := keyOf_cv x y hx hy
  have h2 : keyOf Try.prog 57 (cv x' y') = some (kyL x' y') := keyOf_cv x' y' hx' hy'
  rw [h] at h1
  have := law57.inj h1 h2
  simpa [cv] using this
theorem kyL_key {x y : Int} (hx : inK x) (hy : inK y) : WideAt.IsKeyLit (kyL x y) := law57.key (keyOf_cv x y hx hy)

/-- A cell and its owner. -/
abbrev Ent := (Int × Int) × Int
def hasE (es : List Ent) (x y : Int) : Bool := es.any fun e => e.1 == (x, y)
def valE (es : List Ent) (x y : Int) : Int := match es.find? (fun e => e.1 == (x, y)) with | some e => e.2 | none => 0
theorem hasE_mem {es : List Ent} {e : Ent} (h : e ∈ es) : hasE es e.1.1 e.1.2 = true := List.any_eq_true.2 ⟨e, h, by simp⟩
theorem hasE_iff {es : List Ent} {x y : Int} : hasE es x y = true ↔ ∃ e ∈ es, e.1 = (x, y) := by
  unfold hasE
  rw [List.any_eq_true]
  simp
theorem valE_mem {es : List Ent} (hnd : es.Pairwise (fun a b => a.1 ≠ b.1)) {e : Ent} (h : e ∈ es) : valE es e.1.1 e.1.2 = e.2 := by
  unfold valE
  have : es.find? (fun a => a.1 == (e.1.1, e.1.2)) = some e := by
    induction es with
    | nil => cases h
    | cons a r ih =>
      obtain ⟨h1, h2⟩ := List.pairwise_cons.1 hnd
      rcases List.mem_cons.1 h with rfl | h
      · simp
      · rw [List.find?_cons_of_neg (by simpa using fun h9 => h1 e h h9)]
        exact ih h2 h
  rw [this]
theorem valE_none {es : List Ent} {x y : Int} (h : hasE es x y = false) : valE es x y = 0 := by
  unfold valE
  have : es.find? (fun e => e.1 == (x, y)) = none := by
    rw [List.find?_eq_none]
    intro e he hh
    rw [Bool.eq_false_iff] at h
    exact h (List.any_eq_true.2 ⟨e, he, hh⟩)
  rw [this]
structure RepD (D : DataW Unit) (es : List Ent) : Prop where
  nd : es.Pairwise (fun a b => a.1 ≠ b.1)
  ok : ∀ e ∈ es, inK e.1.1 ∧ inK e.1.2 ∧ inK e.2
  hs : ∀ x y, inK x → inK y → Maps.has D (kyL x y) = hasE es x y
  at_ : ∀ e ∈ es, ∀ z, D.atKey (kyL e.1.1 e.1.2) z = .lit (.int .i64 e.2)
  sz : Maps.size D = es.length
def OwnE (w : World) (b : Nat) (es : List Ent) : Prop := ∃ D : DataW Unit, w.ownsMap Try.prog 57 (plainElem Try.prog 3) b es.length D ∧ RepD D es
theorem OwnE.lt {w : World} {b : Nat} {es : List Ent} (h : OwnE w b es) : b < w.heap.size := by obtain ⟨D, h, _⟩ := h; exact h.lt
theorem OwnE.nd {w : World} {b : Nat} {es : List Ent} (h : OwnE w b es) : es.Pairwise (fun a b => a.1 ≠ b.1) := by obtain ⟨D, _, h⟩ := h; exact h.nd
theorem OwnE.ok {w : World} {b : Nat} {es : List Ent} (h : OwnE w b es) : ∀ e ∈ es, inK e.1.1 ∧ inK e.1.2 ∧ inK e.2 := by obtain ⟨D, _, h⟩ := h; exact h.ok
theorem OwnE.kept {w w' : World} {b : Nat} {es : List Ent} {row : Option Nat} (h : OwnE w b es) (hg : w.grownBy w' row) (hne : some b ≠ row) : OwnE w' b es := by
  obtain ⟨D, h, r⟩ := h
  exact ⟨D, h.kept hg hne, r⟩
theorem OwnE.below {w w' : World} {b : Nat} {es : List Ent} (h : OwnE w b es) (hb : Below w.heap.size w w') : OwnE w' b es := by
  have hlt := h.lt
  obtain ⟨D, ⟨es', clock, h1, F, hs, hD⟩, r⟩ := h
  exact ⟨D, ⟨es', clock, (hb.block b hlt).trans h1, F, hs, hD⟩, r⟩
theorem OwnE.made (w : World) : OwnE (w.alloc (.map #[] 0)) w.heap.size [] :=
  ⟨.map [], World.ownsMap_made w _ _ _, ⟨List.Pairwise.nil, by simp, fun x y _ _ => rfl, by simp, rfl⟩⟩
theorem OwnE.len {w : World} {b : Nat} {es : List Ent} (h : OwnE w b es) (ty : TypeId) : (Builtin.len_ #[50] ty #[.map (some b)]).run Try.prog w = .ok (.int .i64 es.length) w := by
  obtain ⟨D, h, r⟩ := h
  have := h.len Try.underlying50 ty
  rw [r.sz] at this
  exact this
theorem zero3 (w : World) : (zeroValue 3).run Try.prog w = .ok (.int .i64 0) w := by first | exact Try.zeroValue3 w | kernel_rfl
theorem OwnE.look {w : World} {b : Nat} {es : List Ent} (h : OwnE w b es) (x y : Int) (hx : inK x) (hy : inK y) :
    (Instr.lookup 50 (.map (some b)) (cv x y) false).run Try.prog w = .ok (.int .i64 (valE es x y)) w := by
  obtain ⟨D, h, r⟩ := h
  obtain ⟨c, hrun, hat, _⟩ := h.lookup_int law57 Try.underlying50 Try.underlying3 (zero3 w) (keyOf_cv x y hx hy)
  have hc : c = valE es x y := by
    have hat' : D.atKey (kyL x y) (.lit (.int .i64 0)) = .lit (.int .i64 c) := hat
    cases hh : hasE es x y with
    | false =>
      rw [Maps.atKey_of_not_has (by rw [r.hs x y hx hy, hh])] at hat'
      rw [valE_none hh]
      injection hat' with h1
      injection h1 with h1 h2
      exact h2.symm
    | true =>
      obtain ⟨e, he, hxy⟩ := hasE_iff.1 hh
      have h1 := r.at_ e he (.lit (.int .i64 0))
      have h2 := valE_mem r.nd he
      rw [hxy] at h1 h2
      rw [hat'] at h1
      injection h1 with h1
      injection h1 with _ h1
      rw [h1]; exact h2.symm
  rw [hrun, hc]
theorem plain3 {o : Int} (ho : inK o) : plainElem (H := Unit) Try.prog 3 (.int .i64 o) = some (.lit (.int .i64 o), []) := plainElem_int Try.underlying3 ho
theorem tightM {w : World} {b n : Nat} {D : DataW Unit} (h : w.ownsMap Try.prog 57 (plainElem Try.prog 3) b n D) : w.ownsMap Try.prog 57 (plainElem Try.prog 3) b (Maps.size D) D := by
  obtain ⟨es, clock, h1, F, hs, rfl⟩ := h
  exact ⟨es, clock, h1, F, by simp [Maps.size, length_read], rfl⟩
/-- A cell is given an owner. -/
def putE (es : List Ent) (c : Int × Int) (o : Int) : List Ent := (es.filter fun e => !(e.1 == c)) ++ [(c, o)]
theorem putE_new {es : List Ent} {x y : Int} (o : Int) (h : hasE es x y = false) : putE es (x, y) o = es ++ [((x, y), o)] := by
  unfold putE
  rw [List.filter_eq_self.2]
  intro e he
  have : (e.1 == (x, y)) = false := by
    rw [Bool.eq_false_iff]
    intro h9
    rw [Bool.eq_false_iff] at h
    exact h (List.any_eq_true.2 ⟨e, he, h9⟩)
  rw [this]; rfl
theorem len_strike {x y : Int} : ∀ {es : List Ent}, es.Pairwise (fun a b => a.1 ≠ b.1) → (es.filter fun e => !(e.1 == (x, y))).length + (if hasE es x y then 1 else 0) = es.length
  | [], _ => rfl
  | a :: r, h => by
    obtain ⟨h1, h2⟩ := List.pairwise_cons.1 h
    have ih := len_strike (x := x) (y := y) h2
    by_cases ha : a.1 = (x, y)
    · have hr : hasE r x y = false := by
        rw [Bool.eq_false_iff]; intro h9
        obtain ⟨e, he, hxy⟩ := hasE_iff.1 h9
        exact h1 e he (ha.trans hxy.symm)
      have hb : (a.1 == (x, y)) = true := by simp [ha]
      have ht : hasE (a :: r) x y = true := hasE_iff.2 ⟨a, by simp, ha⟩
      rw [hr] at ih
      rw [ht, List.filter_cons_of_neg (by simp [hb])]
      simpa using ih
    · have hb : (a.1 == (x, y)) = false := by simp [ha]
      have ht : hasE (a :: r) x y = hasE r x y := by unfold hasE; rw [List.any_cons, hb]; rfl
      rw [ht, List.filter_cons_of_pos (by simp [hb])]
      simp only [List.length_cons]
      omega
theorem hasE_put (es : List Ent) (x y o x' y' : Int) : hasE (putE es (x, y) o) x' y' = (hasE es x' y' || ((x, y) == (x', y'))) := by
  unfold putE hasE
  rw [List.any_append, List.any_filter]
  by_cases h : (x, y) = (x', y')
  · simp [h]
  · have : ((x, y) == (x', y')) = false := beq_eq_false_iff_ne.2 h
    simp only [this, List.any_cons, List.any_nil, Bool.or_false]
    congr 1
    funext e
    by_cases h2 : e.1 = (x', y')
    · have : (e.1 == (x, y)) = false := beq_eq_false_iff_ne.2 (fun h9 => h (h9.symm.trans h2))
      rw [this, h2]; rfl
    · have : (e.1 == (x', y')) = false := beq_eq_false_iff_ne.2 h2
      rw [this]; simp
theorem len_put {es : List Ent} (h : es.Pairwise (fun a b => a.1 ≠ b.1)) (x y o : Int) : (putE es (x, y) o).length = if hasE es x y = true then es.length else es.length + 1 := by
  have := len_strike (x := x) (y := y) h
  unfold putE
  rw [List.length_append]
  simp only [List.length_singleton]
  cases hh : hasE es x y with
  | true => rw [hh] at this; simpa using this
  | false => rw [hh] at this; simp only [Bool.false_eq_true, if_false] at this ⊢; omega
theorem OwnE.put {w : World} {b : Nat} {es : List Ent} (h : OwnE w b es) (x y o : Int) (hx : inK x) (hy : inK y) (ho : inK o) (hn : es.length < maxLen) :
    ∃ w', (Instr.mapUpdate 50 (.map (some b)) (cv x y) (.int .i64 o)).run Try.prog w = .ok () w' ∧ OwnE w' b (putE es (x, y) o) ∧ w.grownBy w' (some b) := by
  obtain ⟨D, h, r⟩ := h
  have ht := h.entries law57
  obtain ⟨w', hrun, hown, hg⟩ := h.update law57 Try.underlying50 hn (keyOf_cv x y hx hy) (plain3 ho)
  obtain ⟨es0, rfl, hap, hkl⟩ := ht
  have tidy : Maps.Tidy (DataW.map es0) := ⟨_, rfl, hap⟩
  have hsz : Maps.size ((DataW.map es0).put (kyL x y) (.lit (.int .i64 o))) = (putE es (x, y) o).length := by
    rw [Maps.size_put tidy, r.hs x y hx hy, r.sz, len_put r.nd]
  have h3 : w'.ownsMap Try.prog 57 (plainElem Try.prog 3) b (Maps.size ((DataW.map es0).put (kyL x y) (.lit (.int .i64 o)))) ((DataW.map es0).put (kyL x y) (.lit (.int .i64 o))) := tightM hown
  rw [hsz] at h3
  refine ⟨w', hrun, ⟨_, h3, ?_⟩, hg⟩
  have hf : ∀ e ∈ es.filter (fun e => !(e.1 == (x, y))), e ∈ es ∧ e.1 ≠ (x, y) := fun e he => by
    obtain ⟨h1, h2⟩ := List.mem_filter.1 he
    exact ⟨h1, by simpa using h2⟩
  constructor
  · unfold putE
    rw [List.pairwise_append]
    exact ⟨r.nd.filter _, by simp, fun a ha b hb => by rw [List.mem_singleton.1 hb]; exact (hf a ha).2⟩
  · intro e he
    rcases List.mem_append.1 he with he | he
    · exact r.ok e (hf e he).1
    · rw [List.mem_singleton.1 he]; exact ⟨hx, hy, ho⟩
  · intro x' y' hx' hy'
    rw [hasE_put]
    by_cases hxy : x' = x ∧ y' = y
    · obtain ⟨rfl, rfl⟩ := hxy
      refine (Maps.has_put_same tidy.isMap (kyL_key hx hy) _).trans ?_
      simp
    · have hk : kyL x' y' ≠ kyL x y := fun h9 => hxy (kyL_inj hx' hy' hx hy h9)
      refine (Maps.has_put_other hk _).trans ?_
      rw [r.hs x' y' hx' hy']
      have : ((x, y) == (x', y')) = false := by
        rw [beq_eq_false_iff_ne]; intro h9; injection h9 with h8 h9; exact hxy ⟨h8.symm, h9.symm⟩
      simp [this]
  · intro e he z
    rcases List.mem_append.1 he with he | he
    · obtain ⟨he, hne⟩ := hf e he
      have hk : kyL e.1.1 e.1.2 ≠ kyL x y := fun h9 => by
        have h8 := r.ok e he
        obtain ⟨h1, h2⟩ := kyL_inj h8.1 h8.2.1 hx hy h9
        exact hne (Prod.ext h1 h2)
      exact (Maps.atKey_put_other hk _ z).trans (r.at_ e he z)
    · rw [List.mem_singleton.1 he]
      exact Maps.atKey_put_same tidy.isMap (kyL_key hx hy) _ z
  · exact hsz
/-- A range over the map under way; rest: what is still to come. -/
def RngE (w : World) (b r : Nat) (es rest : List Ent) : Prop :=
  ∃ (D : DataW Unit) (left : Lit → Bool) (cnt : Nat), w.ranges Try.prog 57 (plainElem Try.prog 3) b r es.length D left cnt ∧ RepD D es ∧ (∀ e ∈ rest, e ∈ es) ∧ rest.Pairwise (fun a b => a.1 ≠ b.1) ∧ ∀ x y, inK x → inK y → left (kyL x y) = hasE rest x y
theorem RngE.own {w : World} {b r : Nat} {es rest : List Ent} (h : RngE w b r es rest) : OwnE w b es := by
  obtain ⟨D, left, cnt, h, hr, _⟩ := h
  exact ⟨D, h.owns, hr⟩
theorem RngE.kept {w w' : World} {b r : Nat} {es rest : List Ent} {row : Option Nat} (h : RngE w b r es rest) (hg : w.grownBy w' row) (h1 : some b ≠ row) (h2 : some r ≠ row) : RngE w' b r es rest := by
  obtain ⟨D, left, cnt, h, hr⟩ := h
  exact ⟨D, left, cnt, h.kept hg h1 h2, hr⟩
theorem rangeLeft_kept {w w' : World} {b r : Nat} (h1 : w'.heap[b]? = w.heap[b]?) (h2 : w'.heap[r]? = w.heap[r]?) : w'.rangeLeft b r = w.rangeLeft b r := by
  unfold World.rangeLeft
  rw [h1, h2]
theorem RngE.blt {w : World} {b r : Nat} {es rest : List Ent} (h : RngE w b r es rest) : b < w.heap.size ∧ r < w.heap.size ∧ r ≠ b := by
  obtain ⟨D, left, cnt, h, _⟩ := h
  exact ⟨h.owns.lt, h.lt, h.ne⟩
theorem OwnE.range {w : World} {b : Nat} {es : List Ent} (h : OwnE w b es) :
    ∃ w', (Instr.range 50 (.map (some b))).run Try.prog w = .ok (.pointer (some ⟨w.heap.size, 0, none⟩)) w' ∧ RngE w' b w.heap.size es es ∧ w.grownBy w' none ∧ w'.heap.size = w.heap.size + 1 := by
  obtain ⟨D, h, r⟩ := h
  obtain ⟨w', hrun, hrg, hg, hs⟩ := h.range law57 Try.underlying50
  exact ⟨w', hrun, ⟨D, _, _, hrg, r, fun e h => h, r.nd, r.hs⟩, hg, hs⟩
theorem RngE.next {w : World} {b r : Nat} {es rest : List Ent} (h : RngE w b r es rest) (ty : TypeId) :
    (rest = [] ∧ (Instr.next (.pointer (some ⟨r, 0, none⟩)) false ty).run Try.prog w = .ok (.tuple #[.bool false]) w) ∨
    ∃ (e : Ent) (r1 r2 : List Ent) (w' : World), rest = r1 ++ e :: r2 ∧ e ∈ es ∧ inK e.1.1 ∧ inK e.1.2 ∧ inK e.2 ∧
      (Instr.next (.pointer (some ⟨r, 0, none⟩)) false ty).run Try.prog w = .ok (.tuple #[.bool true, cv e.1.1 e.1.2, .int .i64 e.2]) w' ∧ RngE w' b r es (r1 ++ r2) ∧ w.grownBy w' (some r) ∧ w'.heap.size = w.heap.size ∧
      (Instr.entry (.pointer (some ⟨r, 0, none⟩))).run Try.prog w' = .ok (.tuple #[cv e.1.1 e.1.2, .int .i64 e.2]) w' ∧ w'.rangeLeft b r < w.rangeLeft b r := by
  obtain ⟨D, left, cnt, h, hr, hsub, hpw, hl⟩ := h
  rcases h.next law57 ty with ⟨_, hlf, hrun⟩ | ⟨key, v, kl, z, w', cnt', hkey, hlk, hv, hat, hrun, hrg, hlt, hgr, hsz, hen⟩
  · left
    refine ⟨?_, hrun⟩
    cases rest with
    | nil => rfl
    | cons e r =>
      have h8 := hr.ok e (hsub e (by simp))
      have := hl e.1.1 e.1.2 h8.1 h8.2.1
      rw [hlf, hasE_mem (by simp)] at this
      cases this
  · right
    obtain ⟨x, y, rfl, hx, hy, rfl⟩ := keyOf_inv hkey
    rw [hl x y hx hy] at hlk
    obtain ⟨e, he, hxy⟩ := hasE_iff.1 hlk
    obtain ⟨r1, r2, rfl⟩ := List.append_of_mem he
    have hes := hsub e he
    obtain ⟨⟨x1, y1⟩, o⟩ := e
    obtain ⟨rfl, rfl⟩ : x1 = x ∧ y1 = y := by injection hxy with h1 h2; exact ⟨h1, h2⟩
    have h8 := hr.ok _ hes
    obtain ⟨c, rfl, hz, hwc⟩ := plainElem_int_inv Try.underlying3 hv
    have h7 := hat (.lit (.int .i64 0))
    have h6 := hr.at_ _ hes (.lit (.int .i64 0))
    simp only at h6
    rw [h6, hz] at h7
    injection h7 with h7
    injection h7 with _ h7
    subst h7
    refine ⟨((x1, y1), o), r1, r2, w', rfl, hes, h8.1, h8.2.1, h8.2.2, hrun, ⟨D, _, cnt', hrg, hr, fun e h => hsub e ?_, ?_, ?_⟩, hgr, hsz, hen, by rw [hrg.left_eq, h.left_eq]; exact hlt⟩
    · rcases List.mem_append.1 h with h | h
      · exact List.mem_append.2 (.inl h)
      · exact List.mem_append.2 (.inr (List.mem_cons_of_mem _ h))
    · rw [List.pairwise_append] at hpw ⊢
      obtain ⟨p1, p2, p3⟩ := hpw
      exact ⟨p1, (List.pairwise_cons.1 p2).2, fun a ha b hb => p3 a ha b (List.mem_cons_of_mem _ hb)⟩
    · intro x' y' hx' hy'
      have hrest : hasE (r1 ++ ((x1, y1), o) :: r2) x' y' = (hasE (r1 ++ r2) x' y' || ((x1, y1) == (x', y'))) := by
        unfold hasE
        rw [List.any_append, List.any_append, List.any_cons]
        cases List.any r1 _ <;> cases List.any r2 _ <;> cases ((x1, y1) == (x', y')) <;> rfl
      by_cases hxy' : x' = x1 ∧ y' = y1
      · obtain ⟨rfl, rfl⟩ := hxy'
        rw [WideAt.sameKey_self (kyL_key hx' hy')]
        have : hasE (r1 ++ r2) x' y' = false := by
          rw [Bool.eq_false_iff]
          intro h9
          obtain ⟨e, he, hxy⟩ := hasE_iff.1 h9
          rw [List.pairwise_append] at hpw
          obtain ⟨p1, p2, p3⟩ := hpw
          rcases List.mem_append.1 he with he | he
          · exact p3 e he _ (List.mem_cons_self ..) hxy
          · exact (List.pairwise_cons.1 p2).1 e he hxy.symm
        rw [this]; simp
      · have hk : kyL x' y' ≠ kyL x1 y1 := fun h9 => hxy' (kyL_inj hx' hy' hx hy h9)
        have : ((x1, y1) == (x', y')) = false := by
          rw [beq_eq_false_iff_ne]; intro h9; injection h9 with h8 h9; exact hxy' ⟨h8.symm, h9.symm⟩
        rw [Maps.sameKey_ne hk, hl x' y' hx' hy', hrest, this]
        simp
end Go.Proofs.Ytpljnkfbcgdafaa.P
