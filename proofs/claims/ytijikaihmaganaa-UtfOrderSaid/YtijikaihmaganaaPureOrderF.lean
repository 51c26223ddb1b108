/- Of two scalars the lesser one's bytes come ahead. -/
import Derived.Test.YtijikaihmaganaaPureRef
namespace Go.Proofs.Ytijikaihmaganaa.Pure
open Go.RowKit Go.Proofs.Ytijikaihmaganaa.P Go.Proofs.YtijikaihmaganaaW.PrintWords Go.Proofs.YtijikaihmaganaaW.PrintLast Go.Proofs.YtijikaihmaganaaW.PrintMore
set_option linter.unusedVariables false
set_option linter.unusedSimpArgs false
def lessI : List Int → List Int → Bool
  | [], [] => false
  | [], _ :: _ => true
  | _ :: _, [] => false
  | a :: x, b :: y => decide (a < b) || (decide (a = b) && lessI x y)
theorem u8_lt {a b : Int} (ha : byteB a = true) (hb : byteB b = true) : (decide (UInt8.ofNat a.toNat < UInt8.ofNat b.toNat)) = decide (a < b) := by
  have h1 := byte_bnd ha
  have h2 := byte_bnd hb
  rw [decide_eq_decide, UInt8.lt_iff_toNat_lt, UInt8.toNat_ofNat', UInt8.toNat_ofNat']
  omega
theorem u8_eq {a b : Int} (ha : byteB a = true) (hb : byteB b = true) : (UInt8.ofNat a.toNat == UInt8.ofNat b.toNat) = decide (a = b) := by
  have h1 := byte_bnd ha
  have h2 := byte_bnd hb
  rw [Bool.beq_eq_decide_eq, decide_eq_decide, ← UInt8.toNat_inj, UInt8.toNat_ofNat', UInt8.toNat_ofNat']
  omega
theorem less_eq : ∀ (x y : List Int), x.all byteB = true → y.all byteB = true → Op.bytesLess (x.map fun n => UInt8.ofNat n.toNat) (y.map fun n => UInt8.ofNat n.toNat) = lessI x y
  | [], [], _, _ => rfl
  | [], b :: y, _, _ => rfl
  | a :: x, [], _, _ => rfl
  | a :: x, b :: y, hx, hy => by
    simp only [List.all_cons, Bool.and_eq_true] at hx hy
    have ih := less_eq x y hx.2 hy.2
    simp only [List.map_cons, Op.bytesLess, lessI]
    rw [ih, u8_eq hx.1 hy.1]
    congr 1
    exact u8_lt hx.1 hy.1
theorem less_str {x y : List Int} (hx : x.all byteB = true) (hy : y.all byteB = true) (h : lessI x y = true) : Op.bytesLess (strOfNums x).toList (strOfNums y).toList = true := by
  rw [ByteArray.toList_eq, ByteArray.toList_eq, strOfNums_data, strOfNums_data, less_eq x y hx hy, h]
theorem order_bytes (c d : Int) (h0 : 0 ≤ c) (h : c < d) (hd : d ≤ 1114111) : lessI (bytesF c) (bytesF d) = true ∧ (bytesF c).length ≤ (bytesF d).length ∧ bytesF c ≠ (bytesF d).take (bytesF c).length := by
  have key : lessI (bytesF c) (bytesF d) = true ∧ (bytesF c).length ≤ (bytesF d).length := by
    unfold bytesF
    repeat' split
    all_goals first
      | (exfalso; omega)
      | (simp only [lessI, List.length_cons, List.length_nil, Bool.or_eq_true, Bool.and_eq_true, decide_eq_true_eq]
         omega)
  refine ⟨key.1, key.2, ?_⟩
  unfold bytesF
  repeat' split
  all_goals first
    | (exfalso; omega)
    | (simp
       omega)
end Go.Proofs.Ytijikaihmaganaa.Pure
