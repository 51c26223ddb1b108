/- weak.marks, behind, right, others, arabic and left, each over a row of the call's own; and the two that are printed, told likewise. -/
import Derived.Test.YtdhknnaholaohaaP6
import Derived.Test.YtdhknnaholaohaaP7
import Derived.Test.YtdhknnaholaohaaHClone
namespace Go.Proofs.Ytdhknnaholaohaa.P
open Go.RowKit Go.Shelf Go.Proofs.YtdhknnaholaohaaW.PrintWords Go.Proofs.YtdhknnaholaohaaW.PrintLast Go.Proofs.YtdhknnaholaohaaW.PrintMore
set_option linter.unusedVariables false
set_option linter.unusedSimpArgs false

def isoW (v : Int) : Int := if (v == 19 || (v == 20 || (v == 21 || v == 22))) = true then 13 else v
def markW (last c : Int) : Int := if (c == 8) = true then last else c
/-- weak.marks from place i on, d left. -/
def marksL : Nat → Nat → Int → List Int → List Int
  | 0, _, _, l => l
  | d + 1, i, last, l => marksL d (i + 1) (isoW (markW last (rd l (i : Int)))) (if (rd l (i : Int) == 8) = true then l.set i last else l)
def strB (c : Int) : Bool := c == 0 || (c == 1 || c == 2)
/-- weak.behind. -/
def behindL (s t : Int) : Nat → Nat → Int → List Int → List Int
  | 0, _, _, l => l
  | d + 1, i, last, l => behindL s t d (i + 1) (if strB (rd l (i : Int)) = true then rd l (i : Int) else last) (if ((rd l (i : Int) == 3) && (last == s)) = true then l.set i t else l)
/-- weak.right. -/
def rightL : Nat → Nat → List Int → List Int
  | 0, _, l => l
  | d + 1, i, l => rightL d (i + 1) (if (rd l (i : Int) == 2) = true then l.set i 1 else l)
/-- weak.others. -/
def othersL : Nat → Nat → List Int → List Int
  | 0, _, l => l
  | d + 1, i, l => othersL d (i + 1) (if (rd l (i : Int) == 4 || (rd l (i : Int) == 5 || rd l (i : Int) == 7)) = true then l.set i 13 else l)
/-- A row of the call's own. -/
abbrev Row (w : World) (n0 : Nat) (u : Value) (l : List Int) : Prop := Kd.R (Kd.int .i64) 27 w n0 (fun _ => True) u l
theorem row_put {w w0 : World} {g n c : Nat} {l : List Int} (h : Row w w0.heap.size (.slice (some ⟨g, 0, none⟩) n c) l) (hB : Below w0.heap.size w0 w) (hg : w0.heap.size ≤ g) (i : Nat) (x : Int) :
    Row (w.setCell ⟨g, i, none⟩ (.int .i64 x)) w0.heap.size (.slice (some ⟨g, 0, none⟩) n c) (l.set i x) ∧ Below w0.heap.size w0 (w.setCell ⟨g, i, none⟩ (.int .i64 x)) := by
  have h1 := (Kd.R_putg h (i : Int) x).1
  rw [Int.toNat_natCast] at h1
  exact ⟨h1, below_set hB hg⟩
theorem row_open {w : World} {n0 n c : Nat} {A : Option Addr} {l : List Int} (h : Row w n0 (.slice A n c) l) (hn : l.length = n) (i : Nat) (hi : i < n) :
    ∃ g, A = some ⟨g, 0, none⟩ ∧ n0 ≤ g ∧ w.cell? ⟨g, i, none⟩ = some (.int .i64 (rd l (i : Int))) ∧ w.frozen? ⟨g, i, none⟩ = false := by
  obtain ⟨g, c', e, h1, _, _⟩ := Kd.R_form h (by omega)
  injection e with ea en ec
  subst ea
  have h2 := Kd.R_celln (d := 0) h (i : Int) (by omega) (by omega)
  rw [Int.toNat_natCast] at h2
  exact ⟨g, rfl, h1, h2.1, h2.2⟩

set_option maxHeartbeats 4000000 in
set_option maxRecDepth 100000 in
theorem marks_calls (u : Value) (l0 : List Int) (a : Int) (w0 w : World) (hB : Below w0.heap.size w0 w) (ho : Row w w0.heap.size u l0) (hl : l0.length < 17592186044416) :
    Calls Try.prog 17 #[u, .int .i64 a] w fun e w' => e = .returned (.tuple #[]) ∧ Row w' w0.heap.size u (marksL (l0.length) (0) (a) (l0)) ∧ Below w0.heap.size w0 w' := by
  obtain ⟨A, c, e⟩ := Kd.R_slice ho
  subst e
  have HO := Aside0.mk ho
  have HB := Aside0.mk hB
  have HL := Aside0.mk hl
  obtain ⟨R, hR⟩ : ∃ R, marksL (l0.length) (0) (a) (l0) = R := ⟨_, rfl⟩
  have HR := Aside0.mk hR
  rw [hR]
  clear ho hB hl hR
  go_enter Try.func17, Try.ntmps17
  go_wp2
  go_loopg [4, 10] l0.length (fun d v4 v10 w' => ∃ (l : List Int) (i : Nat) (z : Int), v4 = .int .i64 z ∧ v10 = .int .i64 (i : Int) ∧ Aside0 (i + d = l0.length) ∧ Aside0 (l.length = l0.length) ∧ Aside0 (marksL (d) (i) (z) (l) = R) ∧ Aside0 (Row w' w0.heap.size (.slice A l0.length c) l) ∧ Aside0 (Below w0.heap.size w0 w'))
  case atStart => exact ⟨l0, 0, a, rfl, rfl, ⟨by omega⟩, ⟨rfl⟩, HR, HO, HB⟩
  case round =>
    clear HR
    obtain ⟨l, i, z, rfl, rfl, HI, HN, HX, HO, HB⟩ := hrel
    by_cases cl : i < l0.length
    · obtain ⟨d, rfl⟩ : ∃ d, gk = d + 1 := ⟨gk - 1, by have := HI.out; omega⟩
      have HW : Aside0 (wrap64 ((i : Int) + 1) = ((i + 1 : Nat) : Int)) := ⟨by unfold wrap64; have := HL.out; omega⟩
      obtain ⟨g, rfl, hg0, hx, hf⟩ := row_open HO.out HN.out i cl
      have HG := Aside0.mk hg0
      have cb : decide (i < l0.length) = true := decide_eq_true cl
      have hi0 : (0 : Int) ≤ (i : Int) := by omega
      replace cl := eq_true cl
      obtain ⟨q, hq⟩ : ∃ q, rd l (i : Int) = q := ⟨_, rfl⟩
      have HQ := Aside0.mk hq
      rw [hq] at hx
      clear hg0 hq
      cases h0 : (q == 8)
      · cases h1 : ((q) == 19)
        · cases h2 : ((q) == 20)
          · cases h3 : ((q) == 21)
            · cases h4 : ((q) == 22)
              · have hn := HX.out
                simp only [marksL, HQ.out, isoW, markW, strB, h0, h1, h2, h3, h4, Bool.true_or, Bool.or_true, Bool.false_or, Bool.or_false, Bool.and_true, Bool.true_and, Bool.and_false, Bool.false_and, if_true, Bool.false_eq_true, if_false] at hn
                have HN2 := Aside0.mk hn
                clear hn
                go_wp2
                go_roundg d
                case measure => omega
                case rel => exact ⟨l, i + 1, q, rfl, by rw [HW.out], ⟨by have := HI.out; omega⟩, ⟨by have := HN.out; exact this⟩, HN2, HO, HB⟩
              · have hn := HX.out
                simp only [marksL, HQ.out, isoW, markW, strB, h0, h1, h2, h3, h4, Bool.true_or, Bool.or_true, Bool.false_or, Bool.or_false, Bool.and_true, Bool.true_and, Bool.and_false, Bool.false_and, if_true, Bool.false_eq_true, if_false] at hn
                have HN2 := Aside0.mk hn
                clear hn
                go_wp2
                go_roundg d
                case measure => omega
                case rel => exact ⟨l, i + 1, 13, rfl, by rw [HW.out], ⟨by have := HI.out; omega⟩, ⟨by have := HN.out; exact this⟩, HN2, HO, HB⟩
            · have hn := HX.out
              simp only [marksL, HQ.out, isoW, markW, strB, h0, h1, h2, h3, Bool.true_or, Bool.or_true, Bool.false_or, Bool.or_false, Bool.and_true, Bool.true_and, Bool.and_false, Bool.false_and, if_true, Bool.false_eq_true, if_false] at hn
              have HN2 := Aside0.mk hn
              clear hn
              go_wp2
              go_roundg d
              case measure => omega
              case rel => exact ⟨l, i + 1, 13, rfl, by rw [HW.out], ⟨by have := HI.out; omega⟩, ⟨by have := HN.out; exact this⟩, HN2, HO, HB⟩
          · have hn := HX.out
            simp only [marksL, HQ.out, isoW, markW, strB, h0, h1, h2, Bool.true_or, Bool.or_true, Bool.false_or, Bool.or_false, Bool.and_true, Bool.true_and, Bool.and_false, Bool.false_and, if_true, Bool.false_eq_true, if_false] at hn
            have HN2 := Aside0.mk hn
            clear hn
            go_wp2
            go_roundg d
            case measure => omega
            case rel => exact ⟨l, i + 1, 13, rfl, by rw [HW.out], ⟨by have := HI.out; omega⟩, ⟨by have := HN.out; exact this⟩, HN2, HO, HB⟩
        · have hn := HX.out
          simp only [marksL, HQ.out, isoW, markW, strB, h0, h1, Bool.true_or, Bool.or_true, Bool.false_or, Bool.or_false, Bool.and_true, Bool.true_and, Bool.and_false, Bool.false_and, if_true, Bool.false_eq_true, if_false] at hn
          have HN2 := Aside0.mk hn
          clear hn
          go_wp2
          go_roundg d
          case measure => omega
          case rel => exact ⟨l, i + 1, 13, rfl, by rw [HW.out], ⟨by have := HI.out; omega⟩, ⟨by have := HN.out; exact this⟩, HN2, HO, HB⟩
      · cases h1 : ((z) == 19)
        · cases h2 : ((z) == 20)
          · cases h3 : ((z) == 21)
            · cases h4 : ((z) == 22)
              · have hn := HX.out
                simp only [marksL, HQ.out, isoW, markW, strB, h0, h1, h2, h3, h4, Bool.true_or, Bool.or_true, Bool.false_or, Bool.or_false, Bool.and_true, Bool.true_and, Bool.and_false, Bool.false_and, if_true, Bool.false_eq_true, if_false] at hn
                have HN2 := Aside0.mk hn
                clear hn
                have hp := row_put HO.out HB.out HG.out i (z)
                have HP := Aside0.mk hp.1
                have HPB := Aside0.mk hp.2
                have hx2 : (wr.setCell ⟨g, i, none⟩ (.int .i64 (z))).cell? ⟨g, i, none⟩ = some (.int .i64 (z)) := World.cell?_setCell_same' _ _ _ (by rw [hx]; rfl)
                clear hp
                go_wp2
                go_roundg d
                case measure => omega
                case rel => exact ⟨l.set i (z), i + 1, z, rfl, by rw [HW.out], ⟨by have := HI.out; omega⟩, ⟨by have := HN.out; simpa using this⟩, HN2, HP, HPB⟩
              · have hn := HX.out
                simp only [marksL, HQ.out, isoW, markW, strB, h0, h1, h2, h3, h4, Bool.true_or, Bool.or_true, Bool.false_or, Bool.or_false, Bool.and_true, Bool.true_and, Bool.and_false, Bool.false_and, if_true, Bool.false_eq_true, if_false] at hn
                have HN2 := Aside0.mk hn
                clear hn
                have hp := row_put HO.out HB.out HG.out i (z)
                have HP := Aside0.mk hp.1
                have HPB := Aside0.mk hp.2
                have hx2 : (wr.setCell ⟨g, i, none⟩ (.int .i64 (z))).cell? ⟨g, i, none⟩ = some (.int .i64 (z)) := World.cell?_setCell_same' _ _ _ (by rw [hx]; rfl)
                clear hp
                go_wp2
                go_roundg d
                case measure => omega
                case rel => exact ⟨l.set i (z), i + 1, 13, rfl, by rw [HW.out], ⟨by have := HI.out; omega⟩, ⟨by have := HN.out; simpa using this⟩, HN2, HP, HPB⟩
            · have hn := HX.out
              simp only [marksL, HQ.out, isoW, markW, strB, h0, h1, h2, h3, Bool.true_or, Bool.or_true, Bool.false_or, Bool.or_false, Bool.and_true, Bool.true_and, Bool.and_false, Bool.false_and, if_true, Bool.false_eq_true, if_false] at hn
              have HN2 := Aside0.mk hn
              clear hn
              have hp := row_put HO.out HB.out HG.out i (z)
              have HP := Aside0.mk hp.1
              have HPB := Aside0.mk hp.2
              have hx2 : (wr.setCell ⟨g, i, none⟩ (.int .i64 (z))).cell? ⟨g, i, none⟩ = some (.int .i64 (z)) := World.cell?_setCell_same' _ _ _ (by rw [hx]; rfl)
              clear hp
              go_wp2
              go_roundg d
              case measure => omega
              case rel => exact ⟨l.set i (z), i + 1, 13, rfl, by rw [HW.out], ⟨by have := HI.out; omega⟩, ⟨by have := HN.out; simpa using this⟩, HN2, HP, HPB⟩
          · have hn := HX.out
            simp only [marksL, HQ.out, isoW, markW, strB, h0, h1, h2, Bool.true_or, Bool.or_true, Bool.false_or, Bool.or_false, Bool.and_true, Bool.true_and, Bool.and_false, Bool.false_and, if_true, Bool.false_eq_true, if_false] at hn
            have HN2 := Aside0.mk hn
            clear hn
            have hp := row_put HO.out HB.out HG.out i (z)
            have HP := Aside0.mk hp.1
            have HPB := Aside0.mk hp.2
            have hx2 : (wr.setCell ⟨g, i, none⟩ (.int .i64 (z))).cell? ⟨g, i, none⟩ = some (.int .i64 (z)) := World.cell?_setCell_same' _ _ _ (by rw [hx]; rfl)
            clear hp
            go_wp2
            go_roundg d
            case measure => omega
            case rel => exact ⟨l.set i (z), i + 1, 13, rfl, by rw [HW.out], ⟨by have := HI.out; omega⟩, ⟨by have := HN.out; simpa using this⟩, HN2, HP, HPB⟩
        · have hn := HX.out
          simp only [marksL, HQ.out, isoW, markW, strB, h0, h1, Bool.true_or, Bool.or_true, Bool.false_or, Bool.or_false, Bool.and_true, Bool.true_and, Bool.and_false, Bool.false_and, if_true, Bool.false_eq_true, if_false] at hn
          have HN2 := Aside0.mk hn
          clear hn
          have hp := row_put HO.out HB.out HG.out i (z)
          have HP := Aside0.mk hp.1
          have HPB := Aside0.mk hp.2
          have hx2 : (wr.setCell ⟨g, i, none⟩ (.int .i64 (z))).cell? ⟨g, i, none⟩ = some (.int .i64 (z)) := World.cell?_setCell_same' _ _ _ (by rw [hx]; rfl)
          clear hp
          go_wp2
          go_roundg d
          case measure => omega
          case rel => exact ⟨l.set i (z), i + 1, 13, rfl, by rw [HW.out], ⟨by have := HI.out; omega⟩, ⟨by have := HN.out; simpa using this⟩, HN2, HP, HPB⟩
    · have cb : decide (i < l0.length) = false := decide_eq_false cl
      obtain rfl : gk = 0 := by have := HI.out; omega
      have hn := HX.out
      simp only [marksL] at hn
      have HN2 := Aside0.mk hn
      clear hn
      go_wp2
      go_end0
      exact ⟨rfl, by rw [← HN2.out]; exact HO.out, HB.out⟩
set_option maxHeartbeats 4000000 in
set_option maxRecDepth 100000 in
theorem behind_calls (u : Value) (l0 : List Int) (a : Int) (s : Int) (t : Int) (w0 w : World) (hB : Below w0.heap.size w0 w) (ho : Row w w0.heap.size u l0) (hl : l0.length < 17592186044416) :
    Calls Try.prog 28 #[u, .int .i64 a, .int .i64 s, .int .i64 t] w fun e w' => e = .returned (.tuple #[]) ∧ Row w' w0.heap.size u (behindL s t (l0.length) (0) (a) (l0)) ∧ Below w0.heap.size w0 w' := by
  obtain ⟨A, c, e⟩ := Kd.R_slice ho
  subst e
  have HO := Aside0.mk ho
  have HB := Aside0.mk hB
  have HL := Aside0.mk hl
  obtain ⟨R, hR⟩ : ∃ R, behindL s t (l0.length) (0) (a) (l0) = R := ⟨_, rfl⟩
  have HR := Aside0.mk hR
  rw [hR]
  clear ho hB hl hR
  go_enter Try.func28, Try.ntmps28
  go_wp2
  go_loopg [8, 14] l0.length (fun d v4 v10 w' => ∃ (l : List Int) (i : Nat) (z : Int), v4 = .int .i64 z ∧ v10 = .int .i64 (i : Int) ∧ Aside0 (i + d = l0.length) ∧ Aside0 (l.length = l0.length) ∧ Aside0 (behindL s t (d) (i) (z) (l) = R) ∧ Aside0 (Row w' w0.heap.size (.slice A l0.length c) l) ∧ Aside0 (Below w0.heap.size w0 w'))
  case atStart => exact ⟨l0, 0, a, rfl, rfl, ⟨by omega⟩, ⟨rfl⟩, HR, HO, HB⟩
  case round =>
    clear HR
    obtain ⟨l, i, z, rfl, rfl, HI, HN, HX, HO, HB⟩ := hrel
    by_cases cl : i < l0.length
    · obtain ⟨d, rfl⟩ : ∃ d, gk = d + 1 := ⟨gk - 1, by have := HI.out; omega⟩
      have HW : Aside0 (wrap64 ((i : Int) + 1) = ((i + 1 : Nat) : Int)) := ⟨by unfold wrap64; have := HL.out; omega⟩
      obtain ⟨g, rfl, hg0, hx, hf⟩ := row_open HO.out HN.out i cl
      have HG := Aside0.mk hg0
      have cb : decide (i < l0.length) = true := decide_eq_true cl
      have hi0 : (0 : Int) ≤ (i : Int) := by omega
      replace cl := eq_true cl
      obtain ⟨q, hq⟩ : ∃ q, rd l (i : Int) = q := ⟨_, rfl⟩
      have HQ := Aside0.mk hq
      rw [hq] at hx
      clear hg0 hq
      cases h0 : (q == 0)
      · cases h1 : (q == 1)
        · cases h2 : (q == 2)
          · cases h3 : (q == 3)
            · have hn := HX.out
              simp only [behindL, HQ.out, isoW, markW, strB, h0, h1, h2, h3, Bool.true_or, Bool.or_true, Bool.false_or, Bool.or_false, Bool.and_true, Bool.true_and, Bool.and_false, Bool.false_and, if_true, Bool.false_eq_true, if_false] at hn
              have HN2 := Aside0.mk hn
              clear hn
              go_wp2
              go_roundg d
              case measure => omega
              case rel => exact ⟨l, i + 1, z, rfl, by rw [HW.out], ⟨by have := HI.out; omega⟩, ⟨by have := HN.out; exact this⟩, HN2, HO, HB⟩
            · cases h4 : (z == s)
              · have hn := HX.out
                simp only [behindL, HQ.out, isoW, markW, strB, h0, h1, h2, h3, h4, Bool.true_or, Bool.or_true, Bool.false_or, Bool.or_false, Bool.and_true, Bool.true_and, Bool.and_false, Bool.false_and, if_true, Bool.false_eq_true, if_false] at hn
                have HN2 := Aside0.mk hn
                clear hn
                go_wp2
                go_roundg d
                case measure => omega
                case rel => exact ⟨l, i + 1, z, rfl, by rw [HW.out], ⟨by have := HI.out; omega⟩, ⟨by have := HN.out; exact this⟩, HN2, HO, HB⟩
              · have hn := HX.out
                simp only [behindL, HQ.out, isoW, markW, strB, h0, h1, h2, h3, h4, Bool.true_or, Bool.or_true, Bool.false_or, Bool.or_false, Bool.and_true, Bool.true_and, Bool.and_false, Bool.false_and, if_true, Bool.false_eq_true, if_false] at hn
                have HN2 := Aside0.mk hn
                clear hn
                have hp := row_put HO.out HB.out HG.out i (t)
                have HP := Aside0.mk hp.1
                have HPB := Aside0.mk hp.2
                have hx2 : (wr.setCell ⟨g, i, none⟩ (.int .i64 (t))).cell? ⟨g, i, none⟩ = some (.int .i64 (t)) := World.cell?_setCell_same' _ _ _ (by rw [hx]; rfl)
                clear hp
                go_wp2
                go_roundg d
                case measure => omega
                case rel => exact ⟨l.set i (t), i + 1, z, rfl, by rw [HW.out], ⟨by have := HI.out; omega⟩, ⟨by have := HN.out; simpa using this⟩, HN2, HP, HPB⟩
          · have hex : (q == 3) = false := by rw [beq_iff_eq.1 h2]; rfl
            have hn := HX.out
            simp only [behindL, HQ.out, isoW, markW, strB, h0, h1, h2, hex, Bool.true_or, Bool.or_true, Bool.false_or, Bool.or_false, Bool.and_true, Bool.true_and, Bool.and_false, Bool.false_and, if_true, Bool.false_eq_true, if_false] at hn
            have HN2 := Aside0.mk hn
            clear hn
            go_wp2
            go_roundg d
            case measure => omega
            case rel => exact ⟨l, i + 1, q, rfl, by rw [HW.out], ⟨by have := HI.out; omega⟩, ⟨by have := HN.out; exact this⟩, HN2, HO, HB⟩
        · have hex : (q == 3) = false := by rw [beq_iff_eq.1 h1]; rfl
          have hn := HX.out
          simp only [behindL, HQ.out, isoW, markW, strB, h0, h1, hex, Bool.true_or, Bool.or_true, Bool.false_or, Bool.or_false, Bool.and_true, Bool.true_and, Bool.and_false, Bool.false_and, if_true, Bool.false_eq_true, if_false] at hn
          have HN2 := Aside0.mk hn
          clear hn
          go_wp2
          go_roundg d
          case measure => omega
          case rel => exact ⟨l, i + 1, q, rfl, by rw [HW.out], ⟨by have := HI.out; omega⟩, ⟨by have := HN.out; exact this⟩, HN2, HO, HB⟩
      · have hex : (q == 3) = false := by rw [beq_iff_eq.1 h0]; rfl
        have hn := HX.out
        simp only [behindL, HQ.out, isoW, markW, strB, h0, hex, Bool.true_or, Bool.or_true, Bool.false_or, Bool.or_false, Bool.and_true, Bool.true_and, Bool.and_false, Bool.false_and, if_true, Bool.false_eq_true, if_false] at hn
        have HN2 := Aside0.mk hn
        clear hn
        go_wp2
        go_roundg d
        case measure => omega
        case rel => exact ⟨l, i + 1, q, rfl, by rw [HW.out], ⟨by have := HI.out; omega⟩, ⟨by have := HN.out; exact this⟩, HN2, HO, HB⟩
    · have cb : decide (i < l0.length) = false := decide_eq_false cl
      obtain rfl : gk = 0 := by have := HI.out; omega
      have hn := HX.out
      simp only [behindL] at hn
      have HN2 := Aside0.mk hn
      clear hn
      go_wp2
      go_end0
      exact ⟨rfl, by rw [← HN2.out]; exact HO.out, HB.out⟩
set_option maxHeartbeats 4000000 in
set_option maxRecDepth 100000 in
theorem right_calls (u : Value) (l0 : List Int) (a : Int) (w0 w : World) (hB : Below w0.heap.size w0 w) (ho : Row w w0.heap.size u l0) (hl : l0.length < 17592186044416) :
    Calls Try.prog 19 #[u, .int .i64 a] w fun e w' => e = .returned (.tuple #[]) ∧ Row w' w0.heap.size u (rightL (l0.length) (0) (l0)) ∧ Below w0.heap.size w0 w' := by
  obtain ⟨A, c, e⟩ := Kd.R_slice ho
  subst e
  have HO := Aside0.mk ho
  have HB := Aside0.mk hB
  have HL := Aside0.mk hl
  obtain ⟨R, hR⟩ : ∃ R, rightL (l0.length) (0) (l0) = R := ⟨_, rfl⟩
  have HR := Aside0.mk hR
  rw [hR]
  clear ho hB hl hR
  go_enter Try.func19, Try.ntmps19
  go_wp2
  go_loopg [8] l0.length (fun d v10 w' => ∃ (l : List Int) (i : Nat), v10 = .int .i64 (i : Int) ∧ Aside0 (i + d = l0.length) ∧ Aside0 (l.length = l0.length) ∧ Aside0 (rightL (d) (i) (l) = R) ∧ Aside0 (Row w' w0.heap.size (.slice A l0.length c) l) ∧ Aside0 (Below w0.heap.size w0 w'))
  case atStart => exact ⟨l0, 0, rfl, ⟨by omega⟩, ⟨rfl⟩, HR, HO, HB⟩
  case round =>
    clear HR
    obtain ⟨l, i, rfl, HI, HN, HX, HO, HB⟩ := hrel
    by_cases cl : i < l0.length
    · obtain ⟨d, rfl⟩ : ∃ d, gk = d + 1 := ⟨gk - 1, by have := HI.out; omega⟩
      have HW : Aside0 (wrap64 ((i : Int) + 1) = ((i + 1 : Nat) : Int)) := ⟨by unfold wrap64; have := HL.out; omega⟩
      obtain ⟨g, rfl, hg0, hx, hf⟩ := row_open HO.out HN.out i cl
      have HG := Aside0.mk hg0
      have cb : decide (i < l0.length) = true := decide_eq_true cl
      have hi0 : (0 : Int) ≤ (i : Int) := by omega
      replace cl := eq_true cl
      obtain ⟨q, hq⟩ : ∃ q, rd l (i : Int) = q := ⟨_, rfl⟩
      have HQ := Aside0.mk hq
      rw [hq] at hx
      clear hg0 hq
      cases h0 : (q == 2)
      · have hn := HX.out
        simp only [rightL, HQ.out, isoW, markW, strB, h0, Bool.true_or, Bool.or_true, Bool.false_or, Bool.or_false, Bool.and_true, Bool.true_and, Bool.and_false, Bool.false_and, if_true, Bool.false_eq_true, if_false] at hn
        have HN2 := Aside0.mk hn
        clear hn
        go_wp2
        go_roundg d
        case measure => omega
        case rel => exact ⟨l, i + 1, by rw [HW.out], ⟨by have := HI.out; omega⟩, ⟨by have := HN.out; exact this⟩, HN2, HO, HB⟩
      · have hn := HX.out
        simp only [rightL, HQ.out, isoW, markW, strB, h0, Bool.true_or, Bool.or_true, Bool.false_or, Bool.or_false, Bool.and_true, Bool.true_and, Bool.and_false, Bool.false_and, if_true, Bool.false_eq_true, if_false] at hn
        have HN2 := Aside0.mk hn
        clear hn
        have hp := row_put HO.out HB.out HG.out i (1)
        have HP := Aside0.mk hp.1
        have HPB := Aside0.mk hp.2
        have hx2 : (wr.setCell ⟨g, i, none⟩ (.int .i64 (1))).cell? ⟨g, i, none⟩ = some (.int .i64 (1)) := World.cell?_setCell_same' _ _ _ (by rw [hx]; rfl)
        clear hp
        go_wp2
        go_roundg d
        case measure => omega
        case rel => exact ⟨l.set i (1), i + 1, by rw [HW.out], ⟨by have := HI.out; omega⟩, ⟨by have := HN.out; simpa using this⟩, HN2, HP, HPB⟩
    · have cb : decide (i < l0.length) = false := decide_eq_false cl
      obtain rfl : gk = 0 := by have := HI.out; omega
      have hn := HX.out
      simp only [rightL] at hn
      have HN2 := Aside0.mk hn
      clear hn
      go_wp2
      go_end0
      exact ⟨rfl, by rw [← HN2.out]; exact HO.out, HB.out⟩
set_option maxHeartbeats 4000000 in
set_option maxRecDepth 100000 in
theorem others_calls (u : Value) (l0 : List Int) (a : Int) (w0 w : World) (hB : Below w0.heap.size w0 w) (ho : Row w w0.heap.size u l0) (hl : l0.length < 17592186044416) :
    Calls Try.prog 22 #[u, .int .i64 a] w fun e w' => e = .returned (.tuple #[]) ∧ Row w' w0.heap.size u (othersL (l0.length) (0) (l0)) ∧ Below w0.heap.size w0 w' := by
  obtain ⟨A, c, e⟩ := Kd.R_slice ho
  subst e
  have HO := Aside0.mk ho
  have HB := Aside0.mk hB
  have HL := Aside0.mk hl
  obtain ⟨R, hR⟩ : ∃ R, othersL (l0.length) (0) (l0) = R := ⟨_, rfl⟩
  have HR := Aside0.mk hR
  rw [hR]
  clear ho hB hl hR
  go_enter Try.func22, Try.ntmps22
  go_wp2
  go_loopg [8] l0.length (fun d v10 w' => ∃ (l : List Int) (i : Nat), v10 = .int .i64 (i : Int) ∧ Aside0 (i + d = l0.length) ∧ Aside0 (l.length = l0.length) ∧ Aside0 (othersL (d) (i) (l) = R) ∧ Aside0 (Row w' w0.heap.size (.slice A l0.length c) l) ∧ Aside0 (Below w0.heap.size w0 w'))
  case atStart => exact ⟨l0, 0, rfl, ⟨by omega⟩, ⟨rfl⟩, HR, HO, HB⟩
  case round =>
    clear HR
    obtain ⟨l, i, rfl, HI, HN, HX, HO, HB⟩ := hrel
    by_cases cl : i < l0.length
    · obtain ⟨d, rfl⟩ : ∃ d, gk = d + 1 := ⟨gk - 1, by have := HI.out; omega⟩
      have HW : Aside0 (wrap64 ((i : Int) + 1) = ((i + 1 : Nat) : Int)) := ⟨by unfold wrap64; have := HL.out; omega⟩
      obtain ⟨g, rfl, hg0, hx, hf⟩ := row_open HO.out HN.out i cl
      have HG := Aside0.mk hg0
      have cb : decide (i < l0.length) = true := decide_eq_true cl
      have hi0 : (0 : Int) ≤ (i : Int) := by omega
      replace cl := eq_true cl
      obtain ⟨q, hq⟩ : ∃ q, rd l (i : Int) = q := ⟨_, rfl⟩
      have HQ := Aside0.mk hq
      rw [hq] at hx
      clear hg0 hq
      cases h0 : (q == 4)
      · cases h1 : (q == 5)
        · cases h2 : (q == 7)
          · have hn := HX.out
            simp only [othersL, HQ.out, isoW, markW, strB, h0, h1, h2, Bool.true_or, Bool.or_true, Bool.false_or, Bool.or_false, Bool.and_true, Bool.true_and, Bool.and_false, Bool.false_and, if_true, Bool.false_eq_true, if_false] at hn
            have HN2 := Aside0.mk hn
            clear hn
            go_wp2
            go_roundg d
            case measure => omega
            case rel => exact ⟨l, i + 1, by rw [HW.out], ⟨by have := HI.out; omega⟩, ⟨by have := HN.out; exact this⟩, HN2, HO, HB⟩
          · have hn := HX.out
            simp only [othersL, HQ.out, isoW, markW, strB, h0, h1, h2, Bool.true_or, Bool.or_true, Bool.false_or, Bool.or_false, Bool.and_true, Bool.true_and, Bool.and_false, Bool.false_and, if_true, Bool.false_eq_true, if_false] at hn
            have HN2 := Aside0.mk hn
            clear hn
            have hp := row_put HO.out HB.out HG.out i (13)
            have HP := Aside0.mk hp.1
            have HPB := Aside0.mk hp.2
            have hx2 : (wr.setCell ⟨g, i, none⟩ (.int .i64 (13))).cell? ⟨g, i, none⟩ = some (.int .i64 (13)) := World.cell?_setCell_same' _ _ _ (by rw [hx]; rfl)
            clear hp
            go_wp2
            go_roundg d
            case measure => omega
            case rel => exact ⟨l.set i (13), i + 1, by rw [HW.out], ⟨by have := HI.out; omega⟩, ⟨by have := HN.out; simpa using this⟩, HN2, HP, HPB⟩
        · have hn := HX.out
          simp only [othersL, HQ.out, isoW, markW, strB, h0, h1, Bool.true_or, Bool.or_true, Bool.false_or, Bool.or_false, Bool.and_true, Bool.true_and, Bool.and_false, Bool.false_and, if_true, Bool.false_eq_true, if_false] at hn
          have HN2 := Aside0.mk hn
          clear hn
          have hp := row_put HO.out HB.out HG.out i (13)
          have HP := Aside0.mk hp.1
          have HPB := Aside0.mk hp.2
          have hx2 : (wr.setCell ⟨g, i, none⟩ (.int .i64 (13))).cell? ⟨g, i, none⟩ = some (.int .i64 (13)) := World.cell?_setCell_same' _ _ _ (by rw [hx]; rfl)
          clear hp
          go_wp2
          go_roundg d
          case measure => omega
          case rel => exact ⟨l.set i (13), i + 1, by rw [HW.out], ⟨by have := HI.out; omega⟩, ⟨by have := HN.out; simpa using this⟩, HN2, HP, HPB⟩
      · have hn := HX.out
        simp only [othersL, HQ.out, isoW, markW, strB, h0, Bool.true_or, Bool.or_true, Bool.false_or, Bool.or_false, Bool.and_true, Bool.true_and, Bool.and_false, Bool.false_and, if_true, Bool.false_eq_true, if_false] at hn
        have HN2 := Aside0.mk hn
        clear hn
        have hp := row_put HO.out HB.out HG.out i (13)
        have HP := Aside0.mk hp.1
        have HPB := Aside0.mk hp.2
        have hx2 : (wr.setCell ⟨g, i, none⟩ (.int .i64 (13))).cell? ⟨g, i, none⟩ = some (.int .i64 (13)) := World.cell?_setCell_same' _ _ _ (by rw [hx]; rfl)
        clear hp
        go_wp2
        go_roundg d
        case measure => omega
        case rel => exact ⟨l.set i (13), i + 1, by rw [HW.out], ⟨by have := HI.out; omega⟩, ⟨by have := HN.out; simpa using this⟩, HN2, HP, HPB⟩
    · have cb : decide (i < l0.length) = false := decide_eq_false cl
      obtain rfl : gk = 0 := by have := HI.out; omega
      have hn := HX.out
      simp only [othersL] at hn
      have HN2 := Aside0.mk hn
      clear hn
      go_wp2
      go_end0
      exact ⟨rfl, by rw [← HN2.out]; exact HO.out, HB.out⟩
theorem arabic_calls (u : Value) (l0 : List Int) (a : Int) (w0 w : World) (hB : Below w0.heap.size w0 w) (ho : Row w w0.heap.size u l0) (hl : l0.length < 17592186044416) :
    Calls Try.prog 18 #[u, .int .i64 a] w fun e w' => e = .returned (.tuple #[]) ∧ Row w' w0.heap.size u (behindL 2 6 l0.length 0 a l0) ∧ Below w0.heap.size w0 w' := by
  obtain ⟨A, c, e⟩ := Kd.R_slice ho
  subst e
  have H := behind_calls (.slice A l0.length c) l0 a 2 6 w0 w hB ho hl
  clear ho hB hl
  go_enter Try.func18, Try.ntmps18
  go_wp2_with fail
  refine H.mono ?_
  rintro e w1 ⟨rfl, h1, h2⟩
  go_wp2
  go_end0
  exact ⟨rfl, h1, h2⟩
theorem left_calls (u : Value) (l0 : List Int) (a : Int) (w0 w : World) (hB : Below w0.heap.size w0 w) (ho : Row w w0.heap.size u l0) (hl : l0.length < 17592186044416) :
    Calls Try.prog 23 #[u, .int .i64 a] w fun e w' => e = .returned (.tuple #[]) ∧ Row w' w0.heap.size u (behindL 0 0 l0.length 0 a l0) ∧ Below w0.heap.size w0 w' := by
  obtain ⟨A, c, e⟩ := Kd.R_slice ho
  subst e
  have H := behind_calls (.slice A l0.length c) l0 a 0 0 w0 w hB ho hl
  clear ho hB hl
  go_enter Try.func23, Try.ntmps23
  go_wp2_with fail
  refine H.mono ?_
  rintro e w1 ⟨rfl, h1, h2⟩
  go_wp2
  go_end0
  exact ⟨rfl, h1, h2⟩
theorem separators_calls (k : Nat) (u : Value) (l0 : List Int) (a : Int) (r : List Int) (w0 w : World) (hB : Below w0.heap.size w0 w) (ho : Row w w0.heap.size u l0) (h : weak_separators.f k l0 a = some r) :
    Calls Try.prog 20 #[u, .int .i64 a] w fun e w' => e = .returned (.tuple #[]) ∧ Row w' w0.heap.size u r ∧ Below w0.heap.size w0 w' :=
  (weak_separators.calls k (fun _ => True) u l0 a r w0 w hB ho h).mono fun e w' h' => ⟨h'.1, Kd.R_mono h'.2.1 (fun _ _ => trivial), h'.2.2.1⟩
theorem terminators_calls (k : Nat) (u : Value) (l0 : List Int) (a : Int) (r : List Int) (w0 w : World) (hB : Below w0.heap.size w0 w) (ho : Row w w0.heap.size u l0) (h : weak_terminators.f k l0 a = some r) :
    Calls Try.prog 21 #[u, .int .i64 a] w fun e w' => e = .returned (.tuple #[]) ∧ Row w' w0.heap.size u r ∧ Below w0.heap.size w0 w' :=
  (weak_terminators.calls k (fun _ => True) u l0 a r w0 w hB ho h).mono fun e w' h' => ⟨h'.1, Kd.R_mono h'.2.1 (fun _ _ => trivial), h'.2.2.1⟩
end Go.Proofs.Ytdhknnaholaohaa.P
