/- The document's Clear. -/
import Derived.Test.YtpljnkfbcgdafaaHRArea
import Derived.Test.YtpljnkfbcgdafaaHRTake2
import Derived.Test.YtpljnkfbcgdafaaHClear
namespace Go.Proofs.Ytpljnkfbcgdafaa.P
open Go.RowKit Go.Shelf Go.Proofs.YtpljnkfbcgdafaaW.PrintWords Go.Proofs.YtpljnkfbcgdafaaW.PrintLast Go.Proofs.YtpljnkfbcgdafaaW.PrintMore
set_option linter.unusedVariables false
set_option linter.unusedSimpArgs false

def notR (ow : Int) (l : List S59) : List S59 := l.filter (fun h => h.f1 != ow)
theorem notR_step (ow : Int) (l : List S59) (i : Nat) (h : i < l.length) : notR ow (l.take (i + 1)) = if (rd_T59 l (i : Int)).f1 != ow then notR ow (l.take i) ++ [rd_T59 l (i : Int)] else notR ow (l.take i) := by
  have e : rd_T59 l (i : Int) = l[i] := by unfold rd_T59; simp [List.getD_eq_getElem?_getD, List.getElem?_eq_getElem h]
  rw [e, List.take_succ_eq_append_getElem h]
  unfold notR
  rw [List.filter_append]
  by_cases hc : l[i].f1 != ow
  · simp [hc]
  · simp [hc]
theorem notR_len (ow : Int) (l : List S59) (i : Nat) : (notR ow (l.take i)).length ≤ l.length := by
  have h1 := List.length_filter_le (fun h : S59 => h.f1 != ow) (l.take i)
  have h2 : (l.take i).length ≤ l.length := by simp; omega
  unfold notR; omega
theorem RArea2.calls (g : Nat) (W H : Int) (l : List S59) (ow : Int) (w : World) (h : RSh w g W H l) (hl : l.length ≤ 1000000) :
    Calls Try.prog 12 #[.pointer (some ⟨g, 0, none⟩), .int .i64 ow] w fun e w' => ∃ a : Ra, a = l.foldl (raS ow) ⟨0, 0, 0, 0, 0⟩ ∧ e = .returned (.tuple #[.int .i64 a.n, .agg #[.int .i64 a.x, .int .i64 a.y, .int .i64 a.W, .int .i64 a.H]]) ∧ Below w.heap.size w w' :=
  (RArea.calls g W H l ow w h hl).mono fun e w' ⟨he, hb⟩ => ⟨_, rfl, he, hb⟩
set_option maxHeartbeats 8000000 in
set_option maxRecDepth 100000 in
theorem RClear.calls (g : Nat) (W H : Int) (l : List S59) (ow : Int) (w : World) (h : RSh w g W H l) (hl : l.length ≤ 1000000) :
    Calls Try.prog 23 #[.pointer (some ⟨g, 0, none⟩), .int .i64 ow] w fun e w' => (∃ n, e = .returned (.int .i64 n)) ∧ RSh w' g W H (notR ow l) ∧ w.grownBy w' (some g) := by
  have hu32 := Try.underlying32
  have hu55 := Try.underlying55
  have hu59 := Try.underlying59
  have HW := Aside0.mk h
  have HL := Aside0.mk hl
  have HGL := Aside0.mk h.lt
  clear h hl
  go_enter Try.func23, Try.ntmps23
  go_wp2_with (go_at_call 12; refine (RArea2.calls g W H l ow w HW.out HL.out).mono ?_; rintro e w2 ⟨a, ha, rfl, hb⟩; have HBA := Aside0.mk hb; clear hb ha)
  have hv : Below w.heap.size w (w2.alloc (.cells #[.int .i64 a.x, .int .i64 a.y, .int .i64 a.W, .int .i64 a.H] 32)) := below_alloc HBA.out _
  obtain ⟨V, hV⟩ : ∃ V, w2.alloc (.cells #[.int .i64 a.x, .int .i64 a.y, .int .i64 a.W, .int .i64 a.H] 32) = V := ⟨_, rfl⟩
  rw [hV] at hv ⊢
  have HV := Aside0.mk hv
  have HS := Aside0.mk (HW.out.below hv)
  clear hv hV HBA
  go_loopg [7, 8] l.length (fun kq v7 v8 wr => ∃ (i : Nat) (o : List S59) (Av : Option Addr) (cv : Nat), v7 = .slice Av o.length cv ∧ v8 = .int .i64 (i : Int) ∧ Aside0 (i + kq = l.length) ∧ Aside0 (o = notR ow (l.take i)) ∧ Aside0 (Kd.R k59 59 wr V.heap.size (fun _ => True) (.slice Av o.length cv) o) ∧ Aside0 (Below V.heap.size V wr))
  case atStart => exact ⟨0, [], none, 0, rfl, rfl, ⟨by omega⟩, ⟨rfl⟩, ⟨Kd.R_nil _ _ _ _ _⟩, ⟨Below.refl _ _⟩⟩
  case round =>
    obtain ⟨i, o, Av, cv, rfl, rfl, HI, HO, HR, HB⟩ := hrel
    obtain ⟨A, c, hg, hC, hc⟩ := HS.out.below HB.out
    have c2 := cI hg 2 (v := .slice A l.length c) rfl
    by_cases ci : i < l.length
    · have cb : decide (i < l.length) = true := decide_eq_true ci
      have cl : (i < l.length) = True := eq_true ci
      obtain ⟨d, rfl⟩ : ∃ d, gk = d + 1 := ⟨gk - 1, by have := HI.out; omega⟩
      obtain ⟨ad, ea, x0, x1, x2, x3, x4⟩ := at_T59 hC (i : Int) (by omega) (by omega)
      subst ea
      simp only [Int.toNat_natCast] at x0 x1 x2 x3 x4
      have hns := notR_step ow l i ci
      have hnl := HO.out ▸ notR_len ow l i
      have HNL := Aside0.mk hnl
      rw [← HO.out] at hns
      obtain ⟨q, hq⟩ : ∃ q, rd_T59 l (i : Int) = q := ⟨_, rfl⟩
      have HWI := Aside0.mk (show wrap64 ((i : Int) + 1) = ((i + 1 : Nat) : Int) by have := HL.out; unfold wrap64; omega)
      rw [hq] at x0 x1 x2 x3 x4 hns
      clear hq hg hC hc ci hnl
      by_cases ho : q.f1 = ow
      · have hob : (q.f1 != ow) = false := bne_eq_false_iff_eq.2 ho
        rw [hob, if_neg (by decide)] at hns
        have HN := Aside0.mk hns
        clear ho hns
        go_wp2
        go_roundg d
        case measure => have := HI.out; omega
        case rel => exact ⟨i + 1, o, Av, cv, rfl, by rw [HWI.out], ⟨by have := HI.out; omega⟩, ⟨HN.out.symm⟩, HR, HB⟩
      · have hob : (q.f1 != ow) = true := bne_iff_ne.2 ho
        rw [hob, if_pos rfl] at hns
        have HN := Aside0.mk hns
        clear ho hns
        go_wp2_with ((with_reducible refine gate_builtin (b := .append) (xs := #[.tmp 34, .tmp 42]) rfl ?_); at_builtin; refine Kd.R_append k59 (w0 := V) V.heap.size rfl (.tmp 34) (.tmp 42) 53 59 (.agg #[.int .i64 0, .int .i64 0, .int .i64 0, .int .i64 0, .int .i64 0]) 40 rfl Try.underlying53 info59 rfl (by decide) (by omega) (.slice Av o.length cv) o q [.int .i64 q.f0.f0, .int .i64 q.f0.f1, .int .i64 q.f0.f2, .int .i64 q.f0.f3, .int .i64 q.f1] (fun _ => True) (fun _ => False) rfl rfl (k59_mkM _ _ _ q) (fun _ hk => hk.elim) (fun _ _ => trivial) HR.out HB.out HB.out.size (by have := HL.out; have := HNL.out; omega) ?_; intro v2 w3 hr hb _ _; obtain ⟨A3, c3, ev⟩ := Kd.R_slice hr; have ev2 : v2 = .slice A3 (o.length + 1) c3 := (by rw [ev]; simp); subst ev2; clear ev; have HR2 := Aside0.mk hr; have HB2 := Aside0.mk hb; clear hr hb)
        go_roundg d
        case measure => have := HI.out; omega
        case rel => exact ⟨i + 1, o ++ [q], A3, c3, by simp, by rw [HWI.out], ⟨by have := HI.out; omega⟩, ⟨HN.out.symm⟩, ⟨by have := HR2.out; simpa using this⟩, HB2⟩
    · have cb : decide (i < l.length) = false := decide_eq_false ci
      have hii : i = l.length := by have := HI.out; omega
      have ho := HO.out
      rw [hii, List.take_length] at ho
      subst ho
      have HG := Aside0.mk hg
      have f2 := bF hg 2
      clear hii HO hg hC hc ci
      go_wp2
      go_ret
      have hR := Kd.R_set HR.out HG.out (by decide) 2 (.slice Av (notR ow l).length cv)
      have hrr := Kd.R_reads' hR
      refine ⟨⟨_, rfl⟩, ⟨Av, cv, ?_, ?_, ?_⟩, ?_⟩
      · exact blk_put HG.out 2 _ rfl
      · exact hrr.2.2
      · have := hrr.2.1; simpa using this
      · exact (gB (HV.out.trans (HB.out.mono HV.out.size)) (some g)).trans (grC2 _ g 2 _)
end Go.Proofs.Ytpljnkfbcgdafaa.P
