/- What comes in, opened: written by wip/tools/gprint.py for seat 19, turned to seat 20; no condition. -/
import Derived.WalkKit
import Derived.ProofKit
import Derived.OpenShut
import Derived.ShutString
import Derived.ChangeOld
import Derived.Below
import Derived.SizedLaws
import Derived.JoinedCond
import Derived.Deep.CondSized
import Derived.Test.YtpljnkfbcgdafaaRows
import Derived.Test.YtpljnkfbcgdafaaP0
import Derived.Test.YtpljnkfbcgdafaaWSized
namespace Go.Proofs.Ytpljnkfbcgdafaa.Op
open Go.ChangeShapes Go.WideShapes Go.ChangeAt Go.RowKit Go.Proofs.YtpljnkfbcgdafaaW.PrintWords Go.Proofs.YtpljnkfbcgdafaaW.PrintLast Go.Proofs.Ytpljnkfbcgdafaa.P
set_option linter.unusedVariables false
theorem bulk_one {H : Type} (d : DataW H) : 1 ≤ Rows.uptoBulk d := by
  cases d with
  | lit l => cases l <;> simp [Rows.uptoBulk]
  | nil => simp [Rows.uptoBulk]
  | ptr d => simp [Rows.uptoBulk]
  | slice elems spare => simp [Rows.uptoBulk]
  | agg parts => simp [Rows.uptoBulk]
  | iface t d => simp [Rows.uptoBulk]
  | map entries => simp [Rows.uptoBulk]
  | held h => simp [Rows.uptoBulk]
theorem bulk_part {H : Type} {d : DataW H} {l : List (DataW H)} (h : d ∈ l) : Rows.uptoBulk d ≤ Rows.uptoBulkAll l := by
  induction l with
  | nil => cases h
  | cons x r ih =>
    simp only [Rows.uptoBulkAll]
    cases List.mem_cons.1 h with
    | inl e => subst e; omega
    | inr e => have := ih e; omega
theorem bulk_mem {H : Type} {d : DataW H} {l : List (DataW H)} (h : d ∈ l) : Rows.uptoBulk d ≤ Rows.uptoBulk (.agg l) := by
  have := bulk_part h
  simp only [Rows.uptoBulk]
  omega
theorem bulk_length {H : Type} (l : List (DataW H)) : l.length ≤ Rows.uptoBulkAll l := by
  induction l with
  | nil => simp [Rows.uptoBulkAll]
  | cons x r ih =>
    have := bulk_one x
    simp only [Rows.uptoBulkAll, List.length_cons]
    omega
theorem bulk_slice {H : Type} {elems spare : List (DataW H)} : elems.length ≤ Rows.uptoBulk (.slice elems spare) := by
  have := bulk_length elems
  simp only [Rows.uptoBulk]
  omega
theorem bulk_elem {H : Type} {d : DataW H} {elems spare : List (DataW H)} (h : d ∈ elems) : Rows.uptoBulk d ≤ Rows.uptoBulk (.slice elems spare) := by
  have := bulk_part h
  simp only [Rows.uptoBulk]
  omega
/-- Cells that read at a type are those of a value of a kind, of which something is known. -/
def Opens (P : Program) (t : TypeId) {α : Type} (d : Kd α) (Wf : Nat → α → Prop) : Prop :=
  ∀ (H : Type) (enc : TypeId × Value → H) (w : World) (base : Nat) (spare : Nat → Bool) (held : Bool) (fuel : Nat) (cs : List Value) (y : DataW H × List MemPlace),
    DataW.trod enc P w base spare held fuel t cs = some y → ∃ x, d.K w x cs ∧ Wf (Rows.uptoBulk y.1) x
section
variable {P : Program} {t e : TypeId}
theorem opens_int {k : IntKind} (hu : P.underlying t = some (.int k)) : Opens P t (Kd.int k) (fun _ n => (Lit.int k n).wf = true) := by
  intro H enc w base spare held fuel cs y h
  obtain ⟨n, rfl, _, hw⟩ := DataW.trod_int hu h
  exact ⟨n, rfl, hw⟩
theorem opens_bool (hu : P.underlying t = some .bool) : Opens P t Kd.bool (fun _ _ => True) := by
  intro H enc w base spare held fuel cs y h
  obtain ⟨n, rfl, _⟩ := DataW.trod_bool hu h
  exact ⟨n, rfl, trivial⟩
theorem opens_string (hu : P.underlying t = some .string) : Opens P t Kd.string (fun b s => s.size ≤ maxLen ∧ s.size ≤ b) := by
  intro H enc w base spare held fuel cs y h
  obtain ⟨s, rfl, rfl, hw⟩ := DataW.trod_string hu h
  exact ⟨s, rfl, hw, by simp [Rows.uptoBulk]⟩
theorem list_of {α β : Type} {Q : β → α → Prop} (l : List β) (h : ∀ y ∈ l, ∃ x, Q y x) : ∃ xs : List α, xs.length = l.length ∧ ∀ (i : Nat) x, xs[i]? = some x → ∃ y, l[i]? = some y ∧ Q y x := by
  induction l with
  | nil => exact ⟨[], rfl, fun i x hx => by simp at hx⟩
  | cons y l ih =>
    obtain ⟨x, hx⟩ := h y (by simp)
    obtain ⟨xs, hl, hr⟩ := ih (fun z hz => h z (by simp [hz]))
    refine ⟨x :: xs, by simp [hl], fun i z hz => ?_⟩
    cases i with
    | zero => simp at hz; subst hz; exact ⟨y, rfl, hx⟩
    | succ i => exact hr i z (by simpa using hz)
theorem add_add (a : Addr) (m n : Nat) (h : a.add m = ⟨a.block, a.off + m, none⟩ ∨ True) : (a.add m).add n = a.add (m + n) := by
  unfold Addr.add
  split <;> split <;> simp_all [Nat.add_assoc]
theorem opens_slice {α : Type} {d : Kd α} {Wf : Nat → α → Prop} (hu : P.underlying t = some (.slice e)) (he : Opens P e d Wf) (hz : P.cellsOf e = d.sz) (hm : ∀ b b' x, b ≤ b' → Wf b x → Wf b' x) :
    Opens P t (Kd.slice e d) (fun b xs => xs.length ≤ maxLen ∧ xs.length ≤ b ∧ ∀ x ∈ xs, Wf b x) := by
  intro H enc w base spare held fuel cs y h
  rcases DataW.trod_slice hu h with ⟨rfl, rfl⟩ | ⟨a, len, cap, elems, rest, n, _, rfl, rfl, hb, hl, hm', hlen, hel, _⟩
  · exact ⟨[], ⟨none, 0, rfl, Nat.le_refl _, rfl, by simp, fun h0 => absurd h0 (Nat.lt_irrefl _)⟩, by simp [maxLen], by simp, fun x hx => by cases hx⟩
  · have each : ∀ y ∈ elems.zipIdx, ∃ x, ∃ c, w.cells? base (a.add (y.2 * P.cellsOf e)) (P.cellsOf e) = some c ∧ d.K w x c ∧ Wf (Rows.uptoBulk y.1.1) x := by
      rintro ⟨y, i⟩ hy
      have hi : elems[i]? = some y := by
        have := List.mk_mem_zipIdx_iff_getElem?.1 hy
        exact this
      have hlt : i < len := by
        have := (List.getElem?_eq_some_iff.1 hi).1
        omega
      have hq := (hel i hlt).trans hi
      obtain ⟨c, hc, hq⟩ := Option.bind_eq_some_iff.1 hq
      obtain ⟨x, hk, hw⟩ := he H enc w base spare held n c y hq
      exact ⟨x, c, hc, hk, hw⟩
    obtain ⟨xs, hxl, hx⟩ := list_of _ each
    have hxl' : xs.length = len := by rw [hxl, List.length_zipIdx, hlen]
    refine ⟨xs, ⟨some a, cap, by rw [hxl'], by omega, rfl, by simp only [maxLen] at hm'; omega, fun _ => ⟨a, rfl, fun j p hp => ?_⟩⟩, by rw [hxl']; omega, ?_, fun x hx' => ?_⟩
    · obtain ⟨y, hy, c, hc, hk, _⟩ := hx j p hp
      have hy2 : y.2 = j := by
        have := List.getElem?_eq_some_iff.1 hy
        obtain ⟨hj, rfl⟩ := this
        simp
      rw [hy2] at hc
      obtain ⟨_, hcl, hcc⟩ := World.cells?_some hc
      refine ⟨c, d.K_len hk, hk, fun i u hu' => ?_⟩
      have hi : i < P.cellsOf e := by
        have := (List.getElem?_eq_some_iff.1 hu').1
        omega
      have h1 := hcc i hi
      rw [← hu', ← h1, ← hz, add_add _ _ _ (.inr trivial)]
    · have := bulk_slice (elems := elems.map (·.1)) (spare := rest.map (·.1))
      rw [List.length_map] at this
      refine Nat.le_trans ?_ this
      omega
    · obtain ⟨j, hj⟩ := List.mem_iff_getElem?.1 hx'
      obtain ⟨y, hy, c, _, _, hw⟩ := hx j x hj
      refine hm _ _ _ ?_ hw
      have hmem : y.1 ∈ elems := by
        have := List.mem_of_getElem? hy
        exact (List.mem_zipIdx' this).2 ▸ List.getElem_mem _
      exact bulk_elem (List.mem_map_of_mem hmem)
theorem okWide_array {w : World} {r : Reach} {b : Nat} {n : Nat} {v : Value} (ht : P.underlying t = some (.array n e)) (h : Value.okWide P w r b t v) : ∃ cs, v = .agg cs ∧ cs.size = P.cellsOf t := by
  simp only [Value.okWide, ht] at h
  obtain ⟨cs, h1, h2, _⟩ := h
  exact ⟨cs, h1, h2⟩
/-- A slice that came in is no longer than its weight allows. -/
theorem sized_len {H : Type} {enc : TypeId × Value → H} {W : World} {base : Nat} {spare : Nat → Bool} {held : Bool} {a : Option Addr} {len cap : Nat} {d : DataW H} {ps : List MemPlace} {ts : List TypeId} {ds : List (DataW H)} {j : Nat}
    (hsz : (DataW.weightsEach P ts ds).all (· ≤ reachBytes) = true) (ht : ts[j]? = some t) (hd : ds[j]? = some d) (hu : P.underlying t = some (.slice e)) {B : Nat} (hB : P.bytesOf e = B)
    (h : DataW.Trod enc P W base spare held t (.slice a len cap) d ps) : len * B ≤ 140737488351232 := by
  obtain ⟨fuel, hf⟩ := h
  rcases DataW.trod_slice hu hf with ⟨hcs, _⟩ | ⟨x, l, c, elems, rest, n, _, hcs, hx, _, _, _, hlen, _⟩
  · simp [Value.cells] at hcs
    obtain ⟨rfl, rfl, rfl⟩ := hcs
    simp
  · simp [Value.cells] at hcs
    obtain ⟨rfl, rfl, rfl⟩ := hcs
    obtain ⟨hx, _⟩ := Prod.mk.inj hx
    subst hx
    have z := sized_slice hsz ht hd hu
    rw [List.length_map, hB] at z
    have hr : reachBytes = 140737488351232 := by decide
    rw [hr] at z
    have : elems.length * B ≤ (elems.length + (rest.map (·.1)).length) * B := Nat.mul_le_mul_right _ (by omega)
    rw [← hlen]
    omega
end

theorem opn32 {H : Type} {enc : TypeId × Value → H} {w : World} {base : Nat} {spare : Nat → Bool} {held : Bool} {fuel : Nat} {cs : List Value} {y : DataW H × List MemPlace} (h : DataW.trod enc Try.prog w base spare held fuel 32 cs = some y) :
    ∃ (x0 : Int) (x1 : Int) (x2 : Int) (x3 : Int) , cs = [.int .i64 x0, .int .i64 x1, .int .i64 x2, .int .i64 x3] ∧ ((Lit.int .i64 x0).wf = true) ∧ ((Lit.int .i64 x1).wf = true) ∧ ((Lit.int .i64 x2).wf = true) ∧ ((Lit.int .i64 x3).wf = true) := by
  obtain ⟨xs, n, _, rfl, hl, hlen, hf⟩ := DataW.trod_struct Try.underlying32 h
  have hC : Try.prog.cellsOf 32 = 4 := by kernel_rfl
  rw [hC] at hl
  obtain ⟨q0, q1, q2, q3, rfl⟩ : ∃ q0 q1 q2 q3, cs = [q0, q1, q2, q3] := by
    match cs, hl with
    | [q0, q1, q2, q3], _ => exact ⟨q0, q1, q2, q3, rfl⟩
  obtain ⟨y0, y1, y2, y3, rfl⟩ : ∃ y0 y1 y2 y3, xs = [y0, y1, y2, y3] := by
    match xs, hlen with
    | [y0, y1, y2, y3], _ => exact ⟨y0, y1, y2, y3, rfl⟩
  have e0 : DataW.trod enc Try.prog w base spare held n 3 [q0] = some y0 := by
    have := hf 0 _ rfl
    have hc : Try.prog.cellsOf 3 = 1 := by kernel_rfl
    simpa [hc] using this
  have b0 : Rows.uptoBulk y0.1 ≤ Rows.uptoBulk (DataW.agg (([y0, y1, y2, y3] : List (DataW H × List MemPlace)).map (·.1))) := bulk_mem (l := ([y0, y1, y2, y3] : List (DataW H × List MemPlace)).map (·.1)) (by simp)
  obtain ⟨u0, hq0, _, h0w⟩ := DataW.trod_int Try.underlying3 e0
  obtain rfl : q0 = _ := (List.cons.inj hq0).1
  have e1 : DataW.trod enc Try.prog w base spare held n 3 [q1] = some y1 := by
    have := hf 1 _ rfl
    have hc : Try.prog.cellsOf 3 = 1 := by kernel_rfl
    simpa [hc] using this
  have b1 : Rows.uptoBulk y1.1 ≤ Rows.uptoBulk (DataW.agg (([y0, y1, y2, y3] : List (DataW H × List MemPlace)).map (·.1))) := bulk_mem (l := ([y0, y1, y2, y3] : List (DataW H × List MemPlace)).map (·.1)) (by simp)
  obtain ⟨u1, hq1, _, h1w⟩ := DataW.trod_int Try.underlying3 e1
  obtain rfl : q1 = _ := (List.cons.inj hq1).1
  have e2 : DataW.trod enc Try.prog w base spare held n 3 [q2] = some y2 := by
    have := hf 2 _ rfl
    have hc : Try.prog.cellsOf 3 = 1 := by kernel_rfl
    simpa [hc] using this
  have b2 : Rows.uptoBulk y2.1 ≤ Rows.uptoBulk (DataW.agg (([y0, y1, y2, y3] : List (DataW H × List MemPlace)).map (·.1))) := bulk_mem (l := ([y0, y1, y2, y3] : List (DataW H × List MemPlace)).map (·.1)) (by simp)
  obtain ⟨u2, hq2, _, h2w⟩ := DataW.trod_int Try.underlying3 e2
  obtain rfl : q2 = _ := (List.cons.inj hq2).1
  have e3 : DataW.trod enc Try.prog w base spare held n 3 [q3] = some y3 := by
    have := hf 3 _ rfl
    have hc : Try.prog.cellsOf 3 = 1 := by kernel_rfl
    simpa [hc] using this
  have b3 : Rows.uptoBulk y3.1 ≤ Rows.uptoBulk (DataW.agg (([y0, y1, y2, y3] : List (DataW H × List MemPlace)).map (·.1))) := bulk_mem (l := ([y0, y1, y2, y3] : List (DataW H × List MemPlace)).map (·.1)) (by simp)
  obtain ⟨u3, hq3, _, h3w⟩ := DataW.trod_int Try.underlying3 e3
  obtain rfl : q3 = _ := (List.cons.inj hq3).1
  exact ⟨u0, u1, u2, u3, rfl, h0w, h1w, h2w, h3w⟩
end Go.Proofs.Ytpljnkfbcgdafaa.Op
