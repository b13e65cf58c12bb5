/- queue.Queue: Head, Shift. -/
import Derived.Test.YtjnojomfaikfjaaQueueB
import Derived.Test.YtjnojomfaikfjaaRingCPk
namespace Go.Proofs.Ytjnojomfaikfjaa
set_option linter.unusedSimpArgs false
set_option linter.unusedVariables false
open Go.RowKit Go.Proofs.YtjnojomfaikfjaaW.PrintLast
theorem que_head_yes (q r pb : Nat) (s : Que) (p : Pkt) (ps : List Pkt) (w : World) (h : QueAt w q r pb s) (hx : s.xs = p :: ps) :
    Calls Try.prog 55 #[.pointer (some ⟨q, 0, none⟩)] w fun e w' => e = .returned (.tuple #[p.val, .bool true]) ∧ Keeps [] w w' := by
  have g0 := h.c0
  have hl := h.blk.lt
  have hr := h.row
  rw [hx] at hr
  have hat := Pk.at_yes r pb p.n p.size p.sent p.first p.del p.at_ p.lim 0 _ (w.alloc (.cells #[.int .u64 0, .int .u64 0, .int .u64 0, .int .u64 0, .int .u64 0, .int .u64 0, .bool false] 73)) (hr.keeps ((Keeps.refl [] w).alloc _) (by simp) (by simp)) rfl
  simp only [Int.ofNat_zero, Int.natCast_zero] at hat
  go_enter Try.func55, Try.ntmps55
  go_wp2_with (fail)
  refine hat.mono ?_
  rintro e w1 ⟨rfl, hk⟩
  have B1 := (Blk.new w 73 [.int .u64 0, .int .u64 0, .int .u64 0, .int .u64 0, .int .u64 0, .int .u64 0, .bool false]).keeps hk (by simp)
  have K1 : Keeps [] w w1 := ((Keeps.refl [] w).alloc _).trans hk (by simp)
  have y0 := B1.cell 0
  have z0 := B1.frozen 0
  have y1 := B1.cell 1
  have z1 := B1.frozen 1
  have y2 := B1.cell 2
  have z2 := B1.frozen 2
  have y3 := B1.cell 3
  have z3 := B1.frozen 3
  have y4 := B1.cell 4
  have z4 := B1.frozen 4
  have y5 := B1.cell 5
  have z5 := B1.frozen 5
  have y6 := B1.cell 6
  have z6 := B1.frozen 6
  simp only [List.getElem?_cons_zero, List.getElem?_cons_succ] at y0 y1 y2 y3 y4 y5 y6
  clear hat
  go_wp2
  refine bodyPost_ret (v := .tuple #[p.val, .bool true]) (by simp [results, Try.results55, go_sem, Pkt.val, y0, y1, y2, y3, y4, y5, y6]) rfl ⟨rfl, ?_⟩
  exact (by (repeat (first | with_reducible exact K1 | with_reducible apply Keeps.drew | with_reducible apply Keeps.drewN | with_reducible apply Keeps.alloc | with_reducible apply Keeps.set_)); (all_goals (first | (left; simp; done) | (right; simp; done) | (right; simp; omega) | (right; omega))))
theorem que_head_no (q r pb : Nat) (s : Que) (w : World) (h : QueAt w q r pb s) (hx : s.xs = []) :
    Calls Try.prog 55 #[.pointer (some ⟨q, 0, none⟩)] w fun e w' => e = .returned (.tuple #[.agg #[.int .u64 0, .int .u64 0, .int .u64 0, .int .u64 0, .int .u64 0, .int .u64 0, .bool false], .bool false]) ∧ Keeps [] w w' := by
  have g0 := h.c0
  have hl := h.blk.lt
  have hr := h.row
  rw [hx] at hr
  have hr2 := hr.keeps ((Keeps.refl [] w).alloc (.cells #[.int .u64 0, .int .u64 0, .int .u64 0, .int .u64 0, .int .u64 0, .int .u64 0, .bool false] 73)) (by simp) (by simp)
  have hat := Pk.at_no r 0 0 (w.alloc (.cells #[.int .u64 0, .int .u64 0, .int .u64 0, .int .u64 0, .int .u64 0, .int .u64 0, .bool false] 73)) (hr2.c2.trans rfl) (.inr (by omega))
  clear hr2
  go_enter Try.func55, Try.ntmps55
  go_wp2_with (fail)
  refine hat.mono ?_
  rintro e w1 ⟨rfl, hk⟩
  have B1 := (Blk.new w 73 [.int .u64 0, .int .u64 0, .int .u64 0, .int .u64 0, .int .u64 0, .int .u64 0, .bool false]).keeps hk (by simp)
  have K1 : Keeps [] w w1 := ((Keeps.refl [] w).alloc _).trans hk (by simp)
  have y0 := B1.cell 0
  have z0 := B1.frozen 0
  have y1 := B1.cell 1
  have z1 := B1.frozen 1
  have y2 := B1.cell 2
  have z2 := B1.frozen 2
  have y3 := B1.cell 3
  have z3 := B1.frozen 3
  have y4 := B1.cell 4
  have z4 := B1.frozen 4
  have y5 := B1.cell 5
  have z5 := B1.frozen 5
  have y6 := B1.cell 6
  have z6 := B1.frozen 6
  simp only [List.getElem?_cons_zero, List.getElem?_cons_succ] at y0 y1 y2 y3 y4 y5 y6
  clear hat
  go_wp2
  refine bodyPost_ret (v := .tuple #[.agg #[.int .u64 0, .int .u64 0, .int .u64 0, .int .u64 0, .int .u64 0, .int .u64 0, .bool false], .bool false]) (by simp [results, Try.results55, go_sem, y0, y1, y2, y3, y4, y5, y6]) rfl ⟨rfl, ?_⟩
  exact (by (repeat (first | with_reducible exact K1 | with_reducible apply Keeps.drew | with_reducible apply Keeps.drewN | with_reducible apply Keeps.alloc | with_reducible apply Keeps.set_)); (all_goals (first | (left; simp; done) | (right; simp; done) | (right; simp; omega) | (right; omega))))
end Go.Proofs.Ytjnojomfaikfjaa
