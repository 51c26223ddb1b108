/- weak.rules, weak.Rule and weak.All. -/
import Derived.Test.YtdhknnaholaohaaHWeak
import Derived.Laws.EntriesVeiled
namespace Go.Proofs.Ytdhknnaholaohaa.P
open Go.RowKit Go.Shelf Go.Proofs.YtdhknnaholaohaaW.PrintWords Go.Proofs.YtdhknnaholaohaaW.PrintLast Go.Proofs.YtdhknnaholaohaaW.PrintMore
set_option linter.unusedVariables false
set_option linter.unusedSimpArgs false

abbrev rulesV : Value := .agg #[.func (.func 17) #[] #[], .func (.func 18) #[] #[], .func (.func 19) #[] #[], .func (.func 20) #[] #[], .func (.func 21) #[] #[], .func (.func 22) #[] #[], .func (.func 23) #[] #[]]
theorem rules_calls (w : World) : Calls Try.prog 15 #[] w fun e w' => e = .returned rulesV ∧ Below w.heap.size w w' := by
  have hu38 := Try.underlying38
  go_enter Try.func15, Try.ntmps15
  go_wp2
  exact bodyPost_ret (v := rulesV) (results_cell_row rfl _ _ w.heap.size 38 #[.func (.func 17) #[] #[], .func (.func 18) #[] #[], .func (.func 19) #[] #[], .func (.func 20) #[] #[], .func (.func 21) #[] #[], .func (.func 22) #[] #[], .func (.func 23) #[] #[]] (0, 0) _ rfl (blk_new w _) hu38 rfl (by kernel_rfl)) rfl ⟨rfl, below_alloc (Below.refl _ _) _⟩
/-- What rule j makes of a row. -/
def ruleL (j : Nat) (a : Int) (l : List Int) : Option (List Int) := match j with
  | 0 => some (marksL l.length 0 a l)
  | 1 => some (behindL 2 6 l.length 0 a l)
  | 2 => some (rightL l.length 0 l)
  | 3 => weak_separators.f (l.length + 8) l a
  | 4 => weak_terminators.f (8 * l.length + 8) l a
  | 5 => some (othersL l.length 0 l)
  | 6 => some (behindL 0 0 l.length 0 a l)
  | _ => none
def ruleG (j : Nat) : Nat := 17 + j
theorem rule_calls (j : Nat) (hj : j < 7) (u : Value) (l0 : List Int) (a : Int) (r : List Int) (w0 w : World) (hB : Below w0.heap.size w0 w) (ho : Row w w0.heap.size u l0) (hl : l0.length < 17592186044416) (h : ruleL j a l0 = some r) :
    Calls Try.prog (17 + j) #[u, .int .i64 a] w fun e w' => e = .returned (.tuple #[]) ∧ Row w' w0.heap.size u r ∧ Below w0.heap.size w0 w' := by
  match j, hj with
  | 0, _ => cases h; exact marks_calls u l0 a w0 w hB ho hl
  | 1, _ => cases h; exact arabic_calls u l0 a w0 w hB ho hl
  | 2, _ => cases h; exact right_calls u l0 a w0 w hB ho hl
  | 3, _ => exact separators_calls _ u l0 a r w0 w hB ho h
  | 4, _ => exact terminators_calls _ u l0 a r w0 w hB ho h
  | 5, _ => cases h; exact others_calls u l0 a w0 w hB ho hl
  | 6, _ => cases h; exact left_calls u l0 a w0 w hB ho hl
def weak_Rule.f (a0 : Int) (l1 : List Int) (a2 : Int) : Option (List Int × Int) :=
  if 1 ≤ a0 ∧ a0 ≤ 7 ∧ (a2 = 0 ∨ a2 = 1) then (if l1.length < 17592186044416 then (ruleL (a0 - 1).toNat a2 l1).map fun q => (q, 0) else none) else some ([], 1)
set_option maxHeartbeats 4000000 in
set_option maxRecDepth 100000 in
theorem weak_Rule.calls (a0 : Int) (A1 : Option Addr) (c1 : Nat) (l1 : List Int) (a2 : Int) (r1 : List Int) (r2 : Int) (w : World) (hr1 : Kd.C (Kd.int .i64) w A1 l1.length l1) (hc1 : l1.length ≤ c1) (h : weak_Rule.f a0 l1 a2 = some (r1, r2)) :
    Calls Try.prog 11 #[.int .i64 a0, .slice A1 l1.length c1, .int .i64 a2] w fun e w' => ∃ v0_ : Value, e = .returned (.tuple #[v0_, .int .i64 r2]) ∧ Kd.R (Kd.int .i64) 27 w' w.heap.size (fun _ => True) v0_ r1 ∧ Below w.heap.size w w' := by
  unfold weak_Rule.f at h
  by_cases c : 1 ≤ a0 ∧ a0 ≤ 7 ∧ (a2 = 0 ∨ a2 = 1)
  · rw [if_pos c] at h
    by_cases hl : l1.length < 17592186044416
    case neg => rw [if_neg hl] at h; cases h
    rw [if_pos hl] at h
    obtain ⟨q, hq, e⟩ := Option.map_eq_some_iff.1 h
    injection e with e1 e2
    subst e1 e2
    clear h
    obtain ⟨g1, g2, g3⟩ := c
    have hcl := clone_calls A1 c1 l1 w hr1 hc1 hl
    have hsub : ∀ (n : Nat) (hn : n < 7), a0 = ((n + 1 : Nat) : Int) → ruleL n a2 l1 = some q := fun n hn e => by rw [e] at hq; rwa [show (((n + 1 : Nat) : Int) - 1).toNat = n by omega] at hq
    have HQ := Aside0.mk hsub
    have HC := Aside0.mk hcl
    have HL := Aside0.mk hl
    clear hq hr1 hc1 hsub hcl hl
    obtain ⟨b0, hb0⟩ : ∃ b, (a2 != 0) = b := ⟨_, rfl⟩
    have hn : (a0 = 1 ∨ a0 = 2 ∨ a0 = 3 ∨ a0 = 4 ∨ a0 = 5 ∨ a0 = 6 ∨ a0 = 7) ∧ (a2 = 0 ∨ a2 = 1) := ⟨by omega, g3⟩
    clear g1 g2 g3 hb0

    obtain ⟨hn, ha⟩ := hn
    rcases hn with rfl | rfl | rfl | rfl | rfl | rfl | rfl <;> rcases ha with rfl | rfl
    · have i0 : ∀ w, (Instr.index 38 rulesV (.int .i64 0)).run Try.prog w = .ok (.func (.func 17) #[] #[]) w := fun _ => by kernel_rfl
      have hz := HQ.out 0 (by decide) rfl
      have HZ := Aside0.mk hz
      clear hz HQ
      go_enter Try.func11, Try.ntmps11
      go_wp2_with fail
      refine HC.out.mono ?_
      rintro e w1 ⟨v1, rfl, hr, hb⟩
      have hro := fun w2 (hb2 : Below w1.heap.size w1 w2) => rule_calls 0 (by decide) v1 l1 0 q w w2 (below_step hb hb2) (Kd.R_below hr hb2) HL.out HZ.out
      have HRO := Aside0.mk hro
      clear hro hr hb
      go_wp2_with fail
      refine (rules_calls _).mono ?_
      rintro e w2 ⟨rfl, hb2⟩
      have hro := HRO.out w2 hb2
      clear hb2 HRO
      go_wp2_with fail
      refine hro.mono ?_
      rintro e w3 ⟨rfl, h1, h2⟩
      go_wp2
      go_ret2
      exact ⟨_, rfl, h1, h2⟩
    · have i0 : ∀ w, (Instr.index 38 rulesV (.int .i64 0)).run Try.prog w = .ok (.func (.func 17) #[] #[]) w := fun _ => by kernel_rfl
      have hz := HQ.out 0 (by decide) rfl
      have HZ := Aside0.mk hz
      clear hz HQ
      go_enter Try.func11, Try.ntmps11
      go_wp2_with fail
      refine HC.out.mono ?_
      rintro e w1 ⟨v1, rfl, hr, hb⟩
      have hro := fun w2 (hb2 : Below w1.heap.size w1 w2) => rule_calls 0 (by decide) v1 l1 1 q w w2 (below_step hb hb2) (Kd.R_below hr hb2) HL.out HZ.out
      have HRO := Aside0.mk hro
      clear hro hr hb
      go_wp2_with fail
      refine (rules_calls _).mono ?_
      rintro e w2 ⟨rfl, hb2⟩
      have hro := HRO.out w2 hb2
      clear hb2 HRO
      go_wp2_with fail
      refine hro.mono ?_
      rintro e w3 ⟨rfl, h1, h2⟩
      go_wp2
      go_ret2
      exact ⟨_, rfl, h1, h2⟩
    · have i0 : ∀ w, (Instr.index 38 rulesV (.int .i64 1)).run Try.prog w = .ok (.func (.func 18) #[] #[]) w := fun _ => by kernel_rfl
      have hz := HQ.out 1 (by decide) rfl
      have HZ := Aside0.mk hz
      clear hz HQ
      go_enter Try.func11, Try.ntmps11
      go_wp2_with fail
      refine HC.out.mono ?_
      rintro e w1 ⟨v1, rfl, hr, hb⟩
      have hro := fun w2 (hb2 : Below w1.heap.size w1 w2) => rule_calls 1 (by decide) v1 l1 0 q w w2 (below_step hb hb2) (Kd.R_below hr hb2) HL.out HZ.out
      have HRO := Aside0.mk hro
      clear hro hr hb
      go_wp2_with fail
      refine (rules_calls _).mono ?_
      rintro e w2 ⟨rfl, hb2⟩
      have hro := HRO.out w2 hb2
      clear hb2 HRO
      go_wp2_with fail
      refine hro.mono ?_
      rintro e w3 ⟨rfl, h1, h2⟩
      go_wp2
      go_ret2
      exact ⟨_, rfl, h1, h2⟩
    · have i0 : ∀ w, (Instr.index 38 rulesV (.int .i64 1)).run Try.prog w = .ok (.func (.func 18) #[] #[]) w := fun _ => by kernel_rfl
      have hz := HQ.out 1 (by decide) rfl
      have HZ := Aside0.mk hz
      clear hz HQ
      go_enter Try.func11, Try.ntmps11
      go_wp2_with fail
      refine HC.out.mono ?_
      rintro e w1 ⟨v1, rfl, hr, hb⟩
      have hro := fun w2 (hb2 : Below w1.heap.size w1 w2) => rule_calls 1 (by decide) v1 l1 1 q w w2 (below_step hb hb2) (Kd.R_below hr hb2) HL.out HZ.out
      have HRO := Aside0.mk hro
      clear hro hr hb
      go_wp2_with fail
      refine (rules_calls _).mono ?_
      rintro e w2 ⟨rfl, hb2⟩
      have hro := HRO.out w2 hb2
      clear hb2 HRO
      go_wp2_with fail
      refine hro.mono ?_
      rintro e w3 ⟨rfl, h1, h2⟩
      go_wp2
      go_ret2
      exact ⟨_, rfl, h1, h2⟩
    · have i0 : ∀ w, (Instr.index 38 rulesV (.int .i64 2)).run Try.prog w = .ok (.func (.func 19) #[] #[]) w := fun _ => by kernel_rfl
      have hz := HQ.out 2 (by decide) rfl
      have HZ := Aside0.mk hz
      clear hz HQ
      go_enter Try.func11, Try.ntmps11
      go_wp2_with fail
      refine HC.out.mono ?_
      rintro e w1 ⟨v1, rfl, hr, hb⟩
      have hro := fun w2 (hb2 : Below w1.heap.size w1 w2) => rule_calls 2 (by decide) v1 l1 0 q w w2 (below_step hb hb2) (Kd.R_below hr hb2) HL.out HZ.out
      have HRO := Aside0.mk hro
      clear hro hr hb
      go_wp2_with fail
      refine (rules_calls _).mono ?_
      rintro e w2 ⟨rfl, hb2⟩
      have hro := HRO.out w2 hb2
      clear hb2 HRO
      go_wp2_with fail
      refine hro.mono ?_
      rintro e w3 ⟨rfl, h1, h2⟩
      go_wp2
      go_ret2
      exact ⟨_, rfl, h1, h2⟩
    · have i0 : ∀ w, (Instr.index 38 rulesV (.int .i64 2)).run Try.prog w = .ok (.func (.func 19) #[] #[]) w := fun _ => by kernel_rfl
      have hz := HQ.out 2 (by decide) rfl
      have HZ := Aside0.mk hz
      clear hz HQ
      go_enter Try.func11, Try.ntmps11
      go_wp2_with fail
      refine HC.out.mono ?_
      rintro e w1 ⟨v1, rfl, hr, hb⟩
      have hro := fun w2 (hb2 : Below w1.heap.size w1 w2) => rule_calls 2 (by decide) v1 l1 1 q w w2 (below_step hb hb2) (Kd.R_below hr hb2) HL.out HZ.out
      have HRO := Aside0.mk hro
      clear hro hr hb
      go_wp2_with fail
      refine (rules_calls _).mono ?_
      rintro e w2 ⟨rfl, hb2⟩
      have hro := HRO.out w2 hb2
      clear hb2 HRO
      go_wp2_with fail
      refine hro.mono ?_
      rintro e w3 ⟨rfl, h1, h2⟩
      go_wp2
      go_ret2
      exact ⟨_, rfl, h1, h2⟩
    · have i0 : ∀ w, (Instr.index 38 rulesV (.int .i64 3)).run Try.prog w = .ok (.func (.func 20) #[] #[]) w := fun _ => by kernel_rfl
      have hz := HQ.out 3 (by decide) rfl
      have HZ := Aside0.mk hz
      clear hz HQ
      go_enter Try.func11, Try.ntmps11
      go_wp2_with fail
      refine HC.out.mono ?_
      rintro e w1 ⟨v1, rfl, hr, hb⟩
      have hro := fun w2 (hb2 : Below w1.heap.size w1 w2) => rule_calls 3 (by decide) v1 l1 0 q w w2 (below_step hb hb2) (Kd.R_below hr hb2) HL.out HZ.out
      have HRO := Aside0.mk hro
      clear hro hr hb
      go_wp2_with fail
      refine (rules_calls _).mono ?_
      rintro e w2 ⟨rfl, hb2⟩
      have hro := HRO.out w2 hb2
      clear hb2 HRO
      go_wp2_with fail
      refine hro.mono ?_
      rintro e w3 ⟨rfl, h1, h2⟩
      go_wp2
      go_ret2
      exact ⟨_, rfl, h1, h2⟩
    · have i0 : ∀ w, (Instr.index 38 rulesV (.int .i64 3)).run Try.prog w = .ok (.func (.func 20) #[] #[]) w := fun _ => by kernel_rfl
      have hz := HQ.out 3 (by decide) rfl
      have HZ := Aside0.mk hz
      clear hz HQ
      go_enter Try.func11, Try.ntmps11
      go_wp2_with fail
      refine HC.out.mono ?_
      rintro e w1 ⟨v1, rfl, hr, hb⟩
      have hro := fun w2 (hb2 : Below w1.heap.size w1 w2) => rule_calls 3 (by decide) v1 l1 1 q w w2 (below_step hb hb2) (Kd.R_below hr hb2) HL.out HZ.out
      have HRO := Aside0.mk hro
      clear hro hr hb
      go_wp2_with fail
      refine (rules_calls _).mono ?_
      rintro e w2 ⟨rfl, hb2⟩
      have hro := HRO.out w2 hb2
      clear hb2 HRO
      go_wp2_with fail
      refine hro.mono ?_
      rintro e w3 ⟨rfl, h1, h2⟩
      go_wp2
      go_ret2
      exact ⟨_, rfl, h1, h2⟩
    · have i0 : ∀ w, (Instr.index 38 rulesV (.int .i64 4)).run Try.prog w = .ok (.func (.func 21) #[] #[]) w := fun _ => by kernel_rfl
      have hz := HQ.out 4 (by decide) rfl
      have HZ := Aside0.mk hz
      clear hz HQ
      go_enter Try.func11, Try.ntmps11
      go_wp2_with fail
      refine HC.out.mono ?_
      rintro e w1 ⟨v1, rfl, hr, hb⟩
      have hro := fun w2 (hb2 : Below w1.heap.size w1 w2) => rule_calls 4 (by decide) v1 l1 0 q w w2 (below_step hb hb2) (Kd.R_below hr hb2) HL.out HZ.out
      have HRO := Aside0.mk hro
      clear hro hr hb
      go_wp2_with fail
      refine (rules_calls _).mono ?_
      rintro e w2 ⟨rfl, hb2⟩
      have hro := HRO.out w2 hb2
      clear hb2 HRO
      go_wp2_with fail
      refine hro.mono ?_
      rintro e w3 ⟨rfl, h1, h2⟩
      go_wp2
      go_ret2
      exact ⟨_, rfl, h1, h2⟩
    · have i0 : ∀ w, (Instr.index 38 rulesV (.int .i64 4)).run Try.prog w = .ok (.func (.func 21) #[] #[]) w := fun _ => by kernel_rfl
      have hz := HQ.out 4 (by decide) rfl
      have HZ := Aside0.mk hz
      clear hz HQ
      go_enter Try.func11, Try.ntmps11
      go_wp2_with fail
      refine HC.out.mono ?_
      rintro e w1 ⟨v1, rfl, hr, hb⟩
      have hro := fun w2 (hb2 : Below w1.heap.size w1 w2) => rule_calls 4 (by decide) v1 l1 1 q w w2 (below_step hb hb2) (Kd.R_below hr hb2) HL.out HZ.out
      have HRO := Aside0.mk hro
      clear hro hr hb
      go_wp2_with fail
      refine (rules_calls _).mono ?_
      rintro e w2 ⟨rfl, hb2⟩
      have hro := HRO.out w2 hb2
      clear hb2 HRO
      go_wp2_with fail
      refine hro.mono ?_
      rintro e w3 ⟨rfl, h1, h2⟩
      go_wp2
      go_ret2
      exact ⟨_, rfl, h1, h2⟩
    · have i0 : ∀ w, (Instr.index 38 rulesV (.int .i64 5)).run Try.prog w = .ok (.func (.func 22) #[] #[]) w := fun _ => by kernel_rfl
      have hz := HQ.out 5 (by decide) rfl
      have HZ := Aside0.mk hz
      clear hz HQ
      go_enter Try.func11, Try.ntmps11
      go_wp2_with fail
      refine HC.out.mono ?_
      rintro e w1 ⟨v1, rfl, hr, hb⟩
      have hro := fun w2 (hb2 : Below w1.heap.size w1 w2) => rule_calls 5 (by decide) v1 l1 0 q w w2 (below_step hb hb2) (Kd.R_below hr hb2) HL.out HZ.out
      have HRO := Aside0.mk hro
      clear hro hr hb
      go_wp2_with fail
      refine (rules_calls _).mono ?_
      rintro e w2 ⟨rfl, hb2⟩
      have hro := HRO.out w2 hb2
      clear hb2 HRO
      go_wp2_with fail
      refine hro.mono ?_
      rintro e w3 ⟨rfl, h1, h2⟩
      go_wp2
      go_ret2
      exact ⟨_, rfl, h1, h2⟩
    · have i0 : ∀ w, (Instr.index 38 rulesV (.int .i64 5)).run Try.prog w = .ok (.func (.func 22) #[] #[]) w := fun _ => by kernel_rfl
      have hz := HQ.out 5 (by decide) rfl
      have HZ := Aside0.mk hz
      clear hz HQ
      go_enter Try.func11, Try.ntmps11
      go_wp2_with fail
      refine HC.out.mono ?_
      rintro e w1 ⟨v1, rfl, hr, hb⟩
      have hro := fun w2 (hb2 : Below w1.heap.size w1 w2) => rule_calls 5 (by decide) v1 l1 1 q w w2 (below_step hb hb2) (Kd.R_below hr hb2) HL.out HZ.out
      have HRO := Aside0.mk hro
      clear hro hr hb
      go_wp2_with fail
      refine (rules_calls _).mono ?_
      rintro e w2 ⟨rfl, hb2⟩
      have hro := HRO.out w2 hb2
      clear hb2 HRO
      go_wp2_with fail
      refine hro.mono ?_
      rintro e w3 ⟨rfl, h1, h2⟩
      go_wp2
      go_ret2
      exact ⟨_, rfl, h1, h2⟩
    · have i0 : ∀ w, (Instr.index 38 rulesV (.int .i64 6)).run Try.prog w = .ok (.func (.func 23) #[] #[]) w := fun _ => by kernel_rfl
      have hz := HQ.out 6 (by decide) rfl
      have HZ := Aside0.mk hz
      clear hz HQ
      go_enter Try.func11, Try.ntmps11
      go_wp2_with fail
      refine HC.out.mono ?_
      rintro e w1 ⟨v1, rfl, hr, hb⟩
      have hro := fun w2 (hb2 : Below w1.heap.size w1 w2) => rule_calls 6 (by decide) v1 l1 0 q w w2 (below_step hb hb2) (Kd.R_below hr hb2) HL.out HZ.out
      have HRO := Aside0.mk hro
      clear hro hr hb
      go_wp2_with fail
      refine (rules_calls _).mono ?_
      rintro e w2 ⟨rfl, hb2⟩
      have hro := HRO.out w2 hb2
      clear hb2 HRO
      go_wp2_with fail
      refine hro.mono ?_
      rintro e w3 ⟨rfl, h1, h2⟩
      go_wp2
      go_ret2
      exact ⟨_, rfl, h1, h2⟩
    · have i0 : ∀ w, (Instr.index 38 rulesV (.int .i64 6)).run Try.prog w = .ok (.func (.func 23) #[] #[]) w := fun _ => by kernel_rfl
      have hz := HQ.out 6 (by decide) rfl
      have HZ := Aside0.mk hz
      clear hz HQ
      go_enter Try.func11, Try.ntmps11
      go_wp2_with fail
      refine HC.out.mono ?_
      rintro e w1 ⟨v1, rfl, hr, hb⟩
      have hro := fun w2 (hb2 : Below w1.heap.size w1 w2) => rule_calls 6 (by decide) v1 l1 1 q w w2 (below_step hb hb2) (Kd.R_below hr hb2) HL.out HZ.out
      have HRO := Aside0.mk hro
      clear hro hr hb
      go_wp2_with fail
      refine (rules_calls _).mono ?_
      rintro e w2 ⟨rfl, hb2⟩
      have hro := HRO.out w2 hb2
      clear hb2 HRO
      go_wp2_with fail
      refine hro.mono ?_
      rintro e w3 ⟨rfl, h1, h2⟩
      go_wp2
      go_ret2
      exact ⟨_, rfl, h1, h2⟩
  · rw [if_neg c] at h
    cases h
    have c3 : a0 < 1 ∨ (1 ≤ a0 ∧ 7 < a0) ∨ (1 ≤ a0 ∧ a0 ≤ 7 ∧ a2 ≠ 0 ∧ a2 ≠ 1) := by omega
    clear c hr1
    rcases c3 with g | ⟨g, g2⟩ | ⟨g, g2, g3, g4⟩
    · have cb : decide (a0 < 1) = true := decide_eq_true g
      clear g
      go_enter Try.func11, Try.ntmps11
      go_wp2
      go_ret2
      exact ⟨_, rfl, Kd.R_nil _ _ _ _ _, Below.refl _ _⟩
    · have cb : decide (a0 < 1) = false := decide_eq_false (by omega)
      have cb2 : decide (7 < a0) = true := decide_eq_true g2
      clear g g2
      go_enter Try.func11, Try.ntmps11
      go_wp2
      go_ret2
      exact ⟨_, rfl, Kd.R_nil _ _ _ _ _, Below.refl _ _⟩
    · have cb : decide (a0 < 1) = false := decide_eq_false (by omega)
      have cb2 : decide (7 < a0) = false := decide_eq_false (by omega)
      have cb3 : (a2 != 0) = true := bne_iff_ne.2 g3
      have cb4 : (a2 != 1) = true := bne_iff_ne.2 g4
      clear g g2 g3 g4
      go_enter Try.func11, Try.ntmps11
      go_wp2
      go_ret2
      exact ⟨_, rfl, Kd.R_nil _ _ _ _ _, Below.refl _ _⟩
/-- The rules from j on, d left. -/
def allR (a : Int) : Nat → Nat → List Int → Option (List Int)
  | 0, _, l => some l
  | d + 1, j, l => if l.length < 17592186044416 then (ruleL j a l).bind fun q => allR a d (j + 1) q else none
def weak_All.f (l0 : List Int) (a1 : Int) : Option (List Int × Int) :=
  if a1 = 0 ∨ a1 = 1 then (if l0.length < 17592186044416 then (allR a1 7 0 l0).map fun q => (q, 0) else none) else some ([], 1)
set_option maxHeartbeats 4000000 in
set_option maxRecDepth 100000 in
theorem weak_All.calls (A0 : Option Addr) (c0 : Nat) (l0 : List Int) (a1 : Int) (r1 : List Int) (r2 : Int) (w : World) (hr0 : Kd.C (Kd.int .i64) w A0 l0.length l0) (hc0 : l0.length ≤ c0) (h : weak_All.f l0 a1 = some (r1, r2)) :
    Calls Try.prog 8 #[.slice A0 l0.length c0, .int .i64 a1] w fun e w' => ∃ v0_ : Value, e = .returned (.tuple #[v0_, .int .i64 r2]) ∧ Kd.R (Kd.int .i64) 27 w' w.heap.size (fun _ => True) v0_ r1 ∧ Below w.heap.size w w' := by
  unfold weak_All.f at h
  by_cases c : a1 = 0 ∨ a1 = 1
  · rw [if_pos c] at h
    by_cases hl : l0.length < 17592186044416
    case neg => rw [if_neg hl] at h; cases h
    rw [if_pos hl] at h
    obtain ⟨q, hq, e⟩ := Option.map_eq_some_iff.1 h
    injection e with e1 e2
    subst e1 e2
    clear h
    have HC := Aside0.mk (clone_calls A0 c0 l0 w hr0 hc0 hl)
    have HQ := Aside0.mk hq
    clear hq hr0 hc0 hl
    have i0 : ∀ w, (Instr.index 38 rulesV (.int .i64 0)).run Try.prog w = .ok (.func (.func 17) #[] #[]) w := fun _ => by kernel_rfl
    have i1 : ∀ w, (Instr.index 38 rulesV (.int .i64 1)).run Try.prog w = .ok (.func (.func 18) #[] #[]) w := fun _ => by kernel_rfl
    have i2 : ∀ w, (Instr.index 38 rulesV (.int .i64 2)).run Try.prog w = .ok (.func (.func 19) #[] #[]) w := fun _ => by kernel_rfl
    have i3 : ∀ w, (Instr.index 38 rulesV (.int .i64 3)).run Try.prog w = .ok (.func (.func 20) #[] #[]) w := fun _ => by kernel_rfl
    have i4 : ∀ w, (Instr.index 38 rulesV (.int .i64 4)).run Try.prog w = .ok (.func (.func 21) #[] #[]) w := fun _ => by kernel_rfl
    have i5 : ∀ w, (Instr.index 38 rulesV (.int .i64 5)).run Try.prog w = .ok (.func (.func 22) #[] #[]) w := fun _ => by kernel_rfl
    have i6 : ∀ w, (Instr.index 38 rulesV (.int .i64 6)).run Try.prog w = .ok (.func (.func 23) #[] #[]) w := fun _ => by kernel_rfl
    rcases c with rfl | rfl
    · go_enter Try.func8, Try.ntmps8
      go_wp2_with fail
      refine HC.out.mono ?_
      rintro e w1 ⟨v1, rfl, hr, hb⟩
      have HR := Aside0.mk hr
      have HB := Aside0.mk hb
      clear hr hb HC
      go_wp2_with fail
      refine (rules_calls _).mono ?_
      rintro e w2 ⟨rfl, hb2⟩
      have HR2 := Aside0.mk (Kd.R_below HR.out hb2)
      have HB2 := Aside0.mk (below_step HB.out hb2)
      clear hb2 HR HB
      go_wp2
      go_loopg [18] 7 (fun d v18 w' => ∃ (l : List Int) (j : Nat), v18 = .int .i64 (j : Int) ∧ Aside0 (j + d = 7) ∧ Aside0 (allR 0 d j l = some q) ∧ Aside0 (Row w' w.heap.size v1 l) ∧ Aside0 (Below w.heap.size w w'))
      case atStart => exact ⟨l0, 0, rfl, ⟨rfl⟩, HQ, HR2, HB2⟩
      case round =>
        clear HQ HR2 HB2
        obtain ⟨l, j, rfl, HI, HX, HR, HB⟩ := hrel
        by_cases cl : j < 7
        · obtain ⟨d, rfl⟩ : ∃ d, gk = d + 1 := ⟨gk - 1, by have := HI.out; omega⟩
          have hx := HX.out
          simp only [allR] at hx
          by_cases hl : l.length < 17592186044416
          case neg => rw [if_neg hl] at hx; cases hx
          rw [if_pos hl] at hx
          replace hx := Option.bind_eq_some_iff.1 hx
          obtain ⟨t, ht, hx⟩ := hx
          have HX2 := Aside0.mk hx
          have HRO := Aside0.mk (rule_calls j cl v1 l 0 t w wr HB.out HR.out hl ht)
          clear hx ht hl
          have c7 : j = 0 ∨ j = 1 ∨ j = 2 ∨ j = 3 ∨ j = 4 ∨ j = 5 ∨ j = 6 := by omega
          clear cl
          rcases c7 with rfl | rfl | rfl | rfl | rfl | rfl | rfl
          all_goals
            have hro := HRO.out
            go_wp2_with fail
            refine hro.mono ?_
            rintro e w3 ⟨rfl, h1, h2⟩
            have H1 := Aside0.mk h1
            have H2 := Aside0.mk h2
            clear h1 h2 hro
            go_wp2
            go_roundg d
            case measure => omega
            case rel => first | exact ⟨t, 0 + 1, rfl, ⟨by have := HI.out; omega⟩, HX2, H1, H2⟩ | exact ⟨t, 1 + 1, rfl, ⟨by have := HI.out; omega⟩, HX2, H1, H2⟩ | exact ⟨t, 2 + 1, rfl, ⟨by have := HI.out; omega⟩, HX2, H1, H2⟩ | exact ⟨t, 3 + 1, rfl, ⟨by have := HI.out; omega⟩, HX2, H1, H2⟩ | exact ⟨t, 4 + 1, rfl, ⟨by have := HI.out; omega⟩, HX2, H1, H2⟩ | exact ⟨t, 5 + 1, rfl, ⟨by have := HI.out; omega⟩, HX2, H1, H2⟩ | exact ⟨t, 6 + 1, rfl, ⟨by have := HI.out; omega⟩, HX2, H1, H2⟩
        · obtain rfl : gk = 0 := by have := HI.out; omega
          obtain rfl : j = 7 := by have := HI.out; omega
          have hx := HX.out
          simp only [allR, Option.some.injEq] at hx
          subst hx
          go_wp2
          go_ret2
          exact ⟨_, rfl, HR.out, HB.out⟩
    · go_enter Try.func8, Try.ntmps8
      go_wp2_with fail
      refine HC.out.mono ?_
      rintro e w1 ⟨v1, rfl, hr, hb⟩
      have HR := Aside0.mk hr
      have HB := Aside0.mk hb
      clear hr hb HC
      go_wp2_with fail
      refine (rules_calls _).mono ?_
      rintro e w2 ⟨rfl, hb2⟩
      have HR2 := Aside0.mk (Kd.R_below HR.out hb2)
      have HB2 := Aside0.mk (below_step HB.out hb2)
      clear hb2 HR HB
      go_wp2
      go_loopg [18] 7 (fun d v18 w' => ∃ (l : List Int) (j : Nat), v18 = .int .i64 (j : Int) ∧ Aside0 (j + d = 7) ∧ Aside0 (allR 1 d j l = some q) ∧ Aside0 (Row w' w.heap.size v1 l) ∧ Aside0 (Below w.heap.size w w'))
      case atStart => exact ⟨l0, 0, rfl, ⟨rfl⟩, HQ, HR2, HB2⟩
      case round =>
        clear HQ HR2 HB2
        obtain ⟨l, j, rfl, HI, HX, HR, HB⟩ := hrel
        by_cases cl : j < 7
        · obtain ⟨d, rfl⟩ : ∃ d, gk = d + 1 := ⟨gk - 1, by have := HI.out; omega⟩
          have hx := HX.out
          simp only [allR] at hx
          by_cases hl : l.length < 17592186044416
          case neg => rw [if_neg hl] at hx; cases hx
          rw [if_pos hl] at hx
          replace hx := Option.bind_eq_some_iff.1 hx
          obtain ⟨t, ht, hx⟩ := hx
          have HX2 := Aside0.mk hx
          have HRO := Aside0.mk (rule_calls j cl v1 l 1 t w wr HB.out HR.out hl ht)
          clear hx ht hl
          have c7 : j = 0 ∨ j = 1 ∨ j = 2 ∨ j = 3 ∨ j = 4 ∨ j = 5 ∨ j = 6 := by omega
          clear cl
          rcases c7 with rfl | rfl | rfl | rfl | rfl | rfl | rfl
          all_goals
            have hro := HRO.out
            go_wp2_with fail
            refine hro.mono ?_
            rintro e w3 ⟨rfl, h1, h2⟩
            have H1 := Aside0.mk h1
            have H2 := Aside0.mk h2
            clear h1 h2 hro
            go_wp2
            go_roundg d
            case measure => omega
            case rel => first | exact ⟨t, 0 + 1, rfl, ⟨by have := HI.out; omega⟩, HX2, H1, H2⟩ | exact ⟨t, 1 + 1, rfl, ⟨by have := HI.out; omega⟩, HX2, H1, H2⟩ | exact ⟨t, 2 + 1, rfl, ⟨by have := HI.out; omega⟩, HX2, H1, H2⟩ | exact ⟨t, 3 + 1, rfl, ⟨by have := HI.out; omega⟩, HX2, H1, H2⟩ | exact ⟨t, 4 + 1, rfl, ⟨by have := HI.out; omega⟩, HX2, H1, H2⟩ | exact ⟨t, 5 + 1, rfl, ⟨by have := HI.out; omega⟩, HX2, H1, H2⟩ | exact ⟨t, 6 + 1, rfl, ⟨by have := HI.out; omega⟩, HX2, H1, H2⟩
        · obtain rfl : gk = 0 := by have := HI.out; omega
          obtain rfl : j = 7 := by have := HI.out; omega
          have hx := HX.out
          simp only [allR, Option.some.injEq] at hx
          subst hx
          go_wp2
          go_ret2
          exact ⟨_, rfl, HR.out, HB.out⟩
  · rw [if_neg c] at h
    cases h
    have cb3 : (a1 != 0) = true := bne_iff_ne.2 (fun e => c (.inl e))
    have cb4 : (a1 != 1) = true := bne_iff_ne.2 (fun e => c (.inr e))
    clear c hr0
    go_enter Try.func8, Try.ntmps8
    go_wp2
    go_ret2
    exact ⟨_, rfl, Kd.R_nil _ _ _ _ _, Below.refl _ _⟩
end Go.Proofs.Ytdhknnaholaohaa.P
