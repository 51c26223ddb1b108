/- An act of a script in memory; what is read off a sheet. -/
import Derived.Test.YtpljnkfbcgdafaaHTwo
import Derived.Test.YtpljnkfbcgdafaaP47
namespace Go.Proofs.Ytpljnkfbcgdafaa.P
open Go.RowKit Go.Shelf Go.Proofs.YtpljnkfbcgdafaaW.PrintWords Go.Proofs.YtpljnkfbcgdafaaW.PrintLast Go.Proofs.YtpljnkfbcgdafaaW.PrintMore
set_option linter.unusedVariables false
set_option linter.unusedSimpArgs false

structure S34 where
  f0 : Bool
  f1 : S32
  f2 : Int
def z34 : S34 := ⟨false, z32, 0⟩
def k34 : Kd S34 := Kd.iso (Kd.pair Kd.bool (Kd.pair k32 (Kd.int .i64))) (fun x : S34 => (x.f0, x.f1, x.f2))
theorem k34_open {w : World} {x : S34} {cs : List Value} (h : k34.K w x cs) : cs = [.bool x.f0, .int .i64 x.f1.f0, .int .i64 x.f1.f1, .int .i64 x.f1.f2, .int .i64 x.f1.f3, .int .i64 x.f2] := by
  obtain ⟨_, _, rfl, rfl, ⟨_, _, rfl, s1, rfl⟩⟩ := h
  obtain rfl := k32_open s1
  exact rfl
theorem k34_mk (w : World) (x : S34) : k34.K w x [.bool x.f0, .int .i64 x.f1.f0, .int .i64 x.f1.f1, .int .i64 x.f1.f2, .int .i64 x.f1.f3, .int .i64 x.f2] :=
  ⟨[.bool x.f0], _, rfl, rfl, ⟨[.int .i64 x.f1.f0, .int .i64 x.f1.f1, .int .i64 x.f1.f2, .int .i64 x.f1.f3], [.int .i64 x.f2], rfl, k32_mk w x.f1, rfl⟩⟩
def rd_T34 (xs : List S34) (i : Int) : S34 := xs.getD i.toNat z34
theorem at_T34 {w : World} {A : Option Addr} {n : Nat} {xs : List S34} (h : Kd.C k34 w A n xs) (i : Int) (h0 : 0 ≤ i) (h1 : i < n) : ∃ ad, A = some ad ∧ w.cell? (ad.add (i.toNat * 6)) = some (.bool (rd_T34 xs i).f0) ∧ w.cell? ⟨(ad.add (i.toNat * 6)).block, (ad.add (i.toNat * 6)).off + 1, none⟩ = some (.int .i64 (rd_T34 xs i).f1.f0) ∧ w.cell? ⟨(ad.add (i.toNat * 6)).block, (ad.add (i.toNat * 6)).off + 2, none⟩ = some (.int .i64 (rd_T34 xs i).f1.f1) ∧ w.cell? ⟨(ad.add (i.toNat * 6)).block, (ad.add (i.toNat * 6)).off + 3, none⟩ = some (.int .i64 (rd_T34 xs i).f1.f2) ∧ w.cell? ⟨(ad.add (i.toNat * 6)).block, (ad.add (i.toNat * 6)).off + 4, none⟩ = some (.int .i64 (rd_T34 xs i).f1.f3) ∧ w.cell? ⟨(ad.add (i.toNat * 6)).block, (ad.add (i.toNat * 6)).off + 5, none⟩ = some (.int .i64 (rd_T34 xs i).f2) := by
  obtain ⟨ad, c, e, _, hK, hc0⟩ := Kd.C_get h z34 i h0 h1
  have hc : ∀ j u, c[j]? = some u → w.cell? (ad.add (i.toNat * 6 + j)) = some u := hc0
  obtain rfl := k34_open hK
  exact ⟨ad, e, hc 0 _ rfl, by rw [← add_field _ _ 1 (by omega)]; exact hc 1 _ rfl, by rw [← add_field _ _ 2 (by omega)]; exact hc 2 _ rfl, by rw [← add_field _ _ 3 (by omega)]; exact hc 3 _ rfl, by rw [← add_field _ _ 4 (by omega)]; exact hc 4 _ rfl, by rw [← add_field _ _ 5 (by omega)]; exact hc 5 _ rfl⟩
theorem and15 (n : Int) : Go.bits .and .i64 n 15 = n % 16 := by
  have h7 : (BitVec.ofInt 64 15).toNat = 2 ^ 4 - 1 := by decide
  have key : (BitVec.ofInt 64 n &&& BitVec.ofInt 64 15).toNat = (n % ((2 ^ 64 : Nat) : Int)).toNat % 2 ^ 4 := by
    rw [BitVec.toNat_and, BitVec.toNat_ofInt, h7, Nat.and_two_pow_sub_one_eq_mod]
  show IntKind.i64.wrap ((BitVec.ofInt 64 n &&& BitVec.ofInt 64 15).toNat : Nat) = n % 16
  rw [key, IntKind.wrap_i64]
  omega
/-- The first k cells' owners, column by column. -/
def rdL (v : Int → Int → Int) (hn k : Nat) : List Int := (List.range k).map fun j => v ((j / hn : Nat) : Int) ((j % hn : Nat) : Int)
theorem rdL_len (v : Int → Int → Int) (hn k : Nat) : (rdL v hn k).length = k := by simp [rdL]
theorem rdL_step (v : Int → Int → Int) (hn i j : Nat) (h : j < hn) : rdL v hn (i * hn + j + 1) = rdL v hn (i * hn + j) ++ [v (i : Int) (j : Int)] := by
  have h1 : (i * hn + j) / hn = i := by rw [Nat.mul_comm, Nat.mul_add_div (by omega), Nat.div_eq_of_lt h]; omega
  have h2 : (i * hn + j) % hn = j := by rw [Nat.mul_comm, Nat.mul_add_mod, Nat.mod_eq_of_lt h]
  unfold rdL
  rw [List.range_succ, List.map_append, List.map_cons, List.map_nil, h1, h2]
theorem ints_same : ∀ (d k i : Nat) (l : List Int), i + d = l.length → l.length ≤ 1000000 → d + 1 ≤ k → frisketref01_Ints.l0 k l l (i : Int) = some true
  | 0, k, i, l, h, hl, hk => by
    obtain ⟨k, rfl⟩ : ∃ q, k = q + 1 := ⟨k - 1, by omega⟩
    rw [frisketref01_Ints.l0, if_neg (by omega)]
  | d + 1, k, i, l, h, hl, hk => by
    obtain ⟨k, rfl⟩ : ∃ q, k = q + 1 := ⟨k - 1, by omega⟩
    have e1 : wrap64 ((i : Int) + 1) = ((i + 1 : Nat) : Int) := by unfold wrap64; omega
    rw [frisketref01_Ints.l0, if_pos (by omega), if_pos (by omega), if_pos (by omega), if_pos rfl, e1]
    exact ints_same d k (i + 1) l (by omega) hl (by omega)
theorem ints_f (l : List Int) (hl : l.length ≤ 1000000) : frisketref01_Ints.f (l.length + 1) l l = some true := by
  unfold frisketref01_Ints.f
  rw [if_pos rfl]
  exact ints_same l.length (l.length + 1) 0 l (by omega) hl (by omega)
end Go.Proofs.Ytpljnkfbcgdafaa.P
