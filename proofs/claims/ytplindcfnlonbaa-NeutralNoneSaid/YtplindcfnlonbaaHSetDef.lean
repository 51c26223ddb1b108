/- neutral.Settle. -/
import Derived.Test.YtplindcfnlonbaaP5
import Derived.Test.YtplindcfnlonbaaP4
import Derived.Test.YtplindcfnlonbaaP1
import Derived.Test.YtplindcfnlonbaaHStretch
namespace Go.Proofs.Ytplindcfnlonbaa.P
open Go.RowKit Go.Shelf Go.Proofs.YtplindcfnlonbaaW.PrintWords Go.Proofs.YtplindcfnlonbaaW.PrintLast Go.Proofs.YtplindcfnlonbaaW.PrintMore
set_option linter.unusedVariables false
set_option linter.unusedSimpArgs false
attribute [local go_sem] Oper.semAt_some

def sideF (c : Int) : Int := (neutral_side.f c).getD 9
theorem side_eq (c : Int) : neutral_side.f c = some (sideF c) := by
  unfold sideF
  have h : ∃ b, neutral_side.f c = some b := by
    unfold neutral_side.f
    repeat' split
    all_goals exact ⟨_, rfl⟩
  obtain ⟨b, h⟩ := h
  rw [h]; rfl
theorem strong_of {c : Int} (h : c = 0 ∨ c = 1) : neutral_strong.f c = some true := by rcases h with rfl | rfl <;> rfl
theorem strong_not {c : Int} (h : ¬ (c = 0 ∨ c = 1)) : neutral_strong.f c = some false := by
  unfold neutral_strong.f
  rw [if_neg (by omega), beq_eq_false_iff_ne.2 (by omega)]
/-- What a stretch becomes. -/
def aheadF (l : List Int) (fi : Int) (x : Int × Int) : Int := if x.1 > 0 then sideF (rd l (x.1 - 1)) else fi
def behindF (l : List Int) (la : Int) (x : Int × Int) : Int := if x.2 < (l.length : Int) then sideF (rd l x.2) else la
def becF (l : List Int) (own fi la : Int) (x : Int × Int) : Int := if aheadF l fi x = behindF l la x ∧ aheadF l fi x ≠ 9 then aheadF l fi x else own
def fillN : Nat → Nat → Int → List Int → List Int
  | 0, _, _, o => o
  | d + 1, i, v, o => fillN d (i + 1) v (o.set i v)
theorem fillN_len : ∀ (d i : Nat) (v : Int) (o : List Int), (fillN d i v o).length = o.length
  | 0, _, _, _ => rfl
  | d + 1, i, v, o => by rw [fillN, fillN_len d (i + 1), List.length_set]
def setS (l : List Int) (own fi la : Int) (o : List Int) (x : Int × Int) : List Int := fillN (x.2 - x.1).toNat x.1.toNat (becF l own fi la x) o
def upTo (l : List Int) (own fi la : Int) (pre : List (Int × Int)) : List Int := pre.foldl (setS l own fi la) l
theorem upTo_len (l : List Int) (own fi la : Int) (pre : List (Int × Int)) : (upTo l own fi la pre).length = l.length := by
  unfold upTo
  have gen : ∀ (pre : List (Int × Int)) (o : List Int), (pre.foldl (setS l own fi la) o).length = o.length := by
    intro pre
    induction pre with
    | nil => intro o; rfl
    | cons x pre ih => intro o; rw [List.foldl_cons, ih, setS, fillN_len]
  exact gen pre l
theorem upTo_snoc (l : List Int) (own fi la : Int) (pre : List (Int × Int)) (x : Int × Int) : upTo l own fi la (pre ++ [x]) = setS l own fi la (upTo l own fi la pre) x := by
  unfold upTo; rw [List.foldl_append]; rfl
theorem stN_mem (l : List Int) (x : Int × Int) : ∀ (d i fr : Nat), i + d = l.length → fr ≤ i → x ∈ stN l d i fr → ∃ a b : Nat, x = ((a : Int), (b : Int)) ∧ a < b ∧ b ≤ l.length
  | 0, i, fr, hi, hf, h => by
    rw [stN] at h
    split at h
    · rw [List.mem_singleton] at h; exact ⟨fr, l.length, h, by assumption, Nat.le_refl _⟩
    · cases h
  | d + 1, i, fr, hi, hf, h => by
    rw [stN] at h
    split at h
    · exact stN_mem l x d (i + 1) fr (by omega) (by omega) h
    · split at h
      · rcases List.mem_cons.1 h with e | e
        · exact ⟨fr, i, e, by assumption, by omega⟩
        · exact stN_mem l x d (i + 1) (i + 1) (by omega) (by omega) e
      · exact stN_mem l x d (i + 1) (i + 1) (by omega) (by omega) h
def neutral_Settle.f (l : List Int) (lv fi la : Int) : Option (List Int × Int) :=
  if 0 ≤ lv ∧ lv ≤ 125 ∧ (fi = 0 ∨ fi = 1) ∧ (la = 0 ∨ la = 1) then (if l.length < 17592186044416 then some (upTo l (if Int.tmod lv 2 = 1 then 1 else 0) fi la (stN l l.length 0 0), 0) else none) else some ([], 1)
/-- A row of the call's own. -/
abbrev Row (w : World) (n0 : Nat) (u : Value) (l : List Int) : Prop := Kd.R (Kd.int .i64) 23 w n0 (fun _ => True) u l
/-- All but the block g is kept. -/
structure KA (n₀ g : Nat) (A B : World) : Prop where
  bel : Below n₀ A B
  keep : ∀ k o, A.heap[k]? = some o → k ≠ g → B.heap[k]? = some o
theorem KA.refl (n₀ g : Nat) (W : World) : KA n₀ g W W := ⟨Below.refl _ _, fun _ _ h _ => h⟩
theorem KA.drewN {n₀ g : Nat} {A B : World} (h : KA n₀ g A B) (m : Nat) : KA n₀ g A (B.drewN m) := ⟨pw_below_drewN h.bel m, fun k o hk hg => blk_drewN (h.keep k o hk hg) m⟩
theorem KA.drew {n₀ g : Nat} {A B : World} (h : KA n₀ g A B) : KA n₀ g A B.drew := ⟨below_drew h.bel, fun k o hk hg => blk_drew (h.keep k o hk hg)⟩
theorem KA.kg {n₀ g : Nat} {A B : World} (h : KA n₀ g A B) : KG n₀ g A B := ⟨h.bel, fun k o hk _ hg => h.keep k o hk hg⟩
theorem KA.from {n₀ g B0 : Nat} {A B : World} (h : KA n₀ g A B) (hg : ∀ o, A.heap[g]? = some o → o.isCells = true) : KeepsFrom B0 A B :=
  ⟨h.bel.size, fun k o _ hk hc => h.keep k o hk (fun e => by subst e; rw [hg o hk] at hc; cases hc)⟩
theorem row_put {n₀ g n c : Nat} {W0 w : World} {l : List Int} {base : Nat} (h : Row w base (.slice (some ⟨g, 0, none⟩) n c) l) (hK : KA n₀ g W0 w) (hg : n₀ ≤ g) (i : Nat) (x : Int) :
    Row (w.setCell ⟨g, i, none⟩ (.int .i64 x)) base (.slice (some ⟨g, 0, none⟩) n c) (l.set i x) ∧ KA n₀ g W0 (w.setCell ⟨g, i, none⟩ (.int .i64 x)) := by
  have h1 := (Kd.R_putg h (i : Int) x).1
  rw [Int.toNat_natCast] at h1
  refine ⟨h1, hK.bel.setCell hg _, fun k o hk hne => ?_⟩
  rw [Below.heap_setCell w ⟨g, i, none⟩ _ k hne]
  exact hK.keep k o hk hne
theorem row_open {w : World} {n0 n c : Nat} {A : Option Addr} {l : List Int} (h : Row w n0 (.slice A n c) l) (hn : l.length = n) (h0 : 0 < n) : ∃ g, A = some ⟨g, 0, none⟩ ∧ n0 ≤ g ∧ (∀ o, w.heap[g]? = some o → o.isCells = true) := by
  obtain ⟨g, c', e, h1, h2⟩ := Kd.R_form h (by omega)
  injection e with ea en ec
  subst ea
  obtain ⟨_, cells, hc⟩ := h2
  exact ⟨g, rfl, h1, fun o ho => by rw [hc] at ho; cases ho; rfl⟩
theorem row_at {w : World} {n0 n c g : Nat} {l : List Int} (h : Row w n0 (.slice (some ⟨g, 0, none⟩) n c) l) (i : Nat) (hi : i < n) : w.cell? ⟨g, i, none⟩ = some (.int .i64 (rd l (i : Int))) ∧ w.frozen? ⟨g, i, none⟩ = false := by
  have h2 := Kd.R_celln (d := 0) h (i : Int) (by omega) (by omega)
  rw [Int.toNat_natCast] at h2
  exact h2
theorem row_obj {W : World} {base : Nat} {u : Value} {l : List Int} (h : Row W base u l) (k : Nat) (o o' : Obj) (hk : W.heap[k]? = some o) (hc : o.isCells = false) : Row (W.putObj k o') base u l := by
  obtain ⟨h1, ys, h2, h3⟩ := h
  exact ⟨h1, ys, ownsRow_putObj h2 o' hk hc, h3⟩
end Go.Proofs.Ytplindcfnlonbaa.P
