/- queue.Queue: Shift. -/
import Derived.Test.YtjnojomfaikfjaaQueueD
namespace Go.Proofs.Ytjnojomfaikfjaa
set_option linter.unusedSimpArgs false
set_option linter.unusedVariables false
open Go.RowKit Go.Proofs.YtjnojomfaikfjaaW.PrintLast
set_option maxHeartbeats 8000000 in
set_option maxRecDepth 100000 in
theorem que_shift (q r pb : Nat) (s : Que) (p : Pkt) (ps : List Pkt) (w : World) (h : QueAt w q r pb s) (hx : s.xs = p :: ps) (ub : U64 s.bytes) (up : U64 p.size) (hle : p.size ≤ s.bytes) :
    Calls Try.prog 98 #[.pointer (some ⟨q, 0, none⟩)] w fun e w' => e = .returned (.tuple #[p.val, .bool true]) ∧ QueAt w' q r pb ⟨s.room, s.bytes - p.size, s.dropped, s.gone, ps⟩ ∧ Keeps [q, r, pb] w w' := by
  obtain ⟨room, bytes, dropped, gone, xs⟩ := s
  obtain ⟨n, size, a2, a3, a4, a5, a6⟩ := p
  dsimp only [Pkt.val] at *
  subst hx
  have k1 := u64sub bytes size ub up hle
  have g0 := h.c0
  have hl := h.blk.lt
  have h1 := h.keeps ((Keeps.refl [] w).alloc (.cells #[.int .u64 0, .int .u64 0, .int .u64 0, .int .u64 0, .int .u64 0, .int .u64 0, .bool false] 73)) (by simp) (by simp) (by simp)
  have hsh := Pk.shift_yes r pb n size a2 a3 a4 a5 a6 (ps.map Pkt.cells) _ h1.row
  go_enter Try.func98, Try.ntmps98
  go_wp2_with (fail)
  refine hsh.mono ?_
  rintro e w1 ⟨rfl, hrow, hk⟩
  have n1 := h1.ne1
  have n2 := h1.ne2
  have hrl := h.row.lt
  have K1 : Keeps [r, pb] w w1 := (((Keeps.refl [] w).alloc _).mono (by simp)).trans hk (by simp)
  have Y1 := (Blk.new w 73 [.int .u64 0, .int .u64 0, .int .u64 0, .int .u64 0, .int .u64 0, .int .u64 0, .bool false]).keeps hk (by simp; omega)
  have Q1 : QueAt w1 q r pb ⟨room, bytes, dropped, gone, ps⟩ := ⟨h1.blk.keeps hk (by simp; exact ⟨n1, n2⟩), hrow⟩
  clear hsh h1 hrow hk h g0
  go_wp2_with (fail)
  refine wp_at (fun W => Blk W w1.heap.size 73 [.int .u64 n, .int .u64 size, .int .u64 a2, .int .u64 a3, .int .u64 a4, .int .u64 a5, .bool a6] ∧ Blk W w.heap.size 73 [.int .u64 0, .int .u64 0, .int .u64 0, .int .u64 0, .int .u64 0, .int .u64 0, .bool false] ∧ QueAt W q r pb ⟨room, bytes, dropped, gone, ps⟩ ∧ Keeps [r, pb] w W) ?_ ?_
  · exact ⟨Blk.new w1 _ [.int .u64 n, .int .u64 size, .int .u64 a2, .int .u64 a3, .int .u64 a4, .int .u64 a5, .bool a6], Y1.alloc _, Q1.keeps ((Keeps.refl [] w1).alloc _) (by simp) (by simp) (by simp), K1.alloc _⟩
  rintro W2 ⟨B2, Y2, Q2, K2⟩
  have hb4 : w.heap.size < w1.heap.size := Y1.lt
  clear Y1 Q1 K1
  generalize w1.heap.size = b4 at *
  have g2 := Q2.c2
  have f2 := Q2.blk.frozen 2
  have x1 := B2.cell 1
  simp only [List.getElem?_cons_zero, List.getElem?_cons_succ] at x1
  dsimp only at g2
  refine start_ (n := 10) (S := fun w' => w'.cell? ⟨q, 2, none⟩ = some (.int .u64 bytes) ∧ w'.cell? ⟨b4, 1, none⟩ = some (.int .u64 size)) (ds := [9]) #[false, false, false, false, false, false, false, false, false, false] (by kernel_rfl) rfl rfl ⟨g2, x1⟩ (fun hHeld => ?_)
  refine pure_ (i := 0) (N := some 17) (v := ?_) (a' := ?_) #[true, false, false, false, false, false, false, false, false, false] rfl rfl (by kernel_rfl) (fun _ _ _ h => h) (Or.inl ⟨by rfl, ?_⟩) ?_ ?_
  rotate_left
  · intro w'
    go_simp
    with_reducible rfl
  rotate_left
  · simp only [Act.put, List.setIfInBounds_toArray, List.set_cons_zero, List.set_cons_succ, i64_w, i32_w]
    rfl
  refine pure_ (i := 1) (N := some 18) (v := ?_) (a' := ?_) #[true, true, false, false, false, false, false, false, false, false] rfl rfl (by kernel_rfl) (fun _ _ _ h => h) (Or.inl ⟨by rfl, ?_⟩) ?_ ?_
  rotate_left
  · intro w'
    go_simp
    with_reducible rfl
  rotate_left
  · simp only [Act.put, List.setIfInBounds_toArray, List.set_cons_zero, List.set_cons_succ, i64_w, i32_w]
    rfl
  refine pure_ (i := 2) (N := some 19) (v := ?_) (a' := ?_) #[true, true, true, false, false, false, false, false, false, false] rfl rfl (by kernel_rfl) (fun _ _ _ h => h) (Or.inl ⟨by rfl, ?_⟩) ?_ ?_
  rotate_left
  · intro w'
    go_simp
    with_reducible rfl
  rotate_left
  · simp only [Act.put, List.setIfInBounds_toArray, List.set_cons_zero, List.set_cons_succ, i64_w, i32_w]
    rfl
  refine pure_ (i := 4) (N := some 21) (v := ?_) (a' := ?_) #[true, true, true, false, true, false, false, false, false, false] rfl rfl (by kernel_rfl) (fun _ _ _ h => h) (Or.inl ⟨by rfl, ?_⟩) ?_ ?_
  rotate_left
  · intro w'
    go_simp
    with_reducible rfl
  rotate_left
  · simp only [Act.put, List.setIfInBounds_toArray, List.set_cons_zero, List.set_cons_succ, i64_w, i32_w]
    rfl
  refine take_ (i := 3) (N := some 20) (v := ?_) (a' := ?_) #[true, true, true, true, true, false, false, false, false, false] rfl rfl (by kernel_rfl) (fun _ _ _ h => h) (Or.inl ⟨by rfl, ?_⟩) hHeld ?_ ?_
  rotate_left
  · rintro w' ⟨s0, s1⟩
    go_simp
    with_reducible rfl
  rotate_left
  · simp only [Act.put, List.setIfInBounds_toArray, List.set_cons_zero, List.set_cons_succ, i64_w, i32_w]
    rfl
  refine take_ (i := 5) (N := some 22) (v := ?_) (a' := ?_) #[true, true, true, true, true, true, false, false, false, false] rfl rfl (by kernel_rfl) (fun _ _ _ h => h) (Or.inl ⟨by rfl, ?_⟩) hHeld ?_ ?_
  rotate_left
  · rintro w' ⟨s0, s1⟩
    go_simp
    with_reducible rfl
  rotate_left
  · simp only [Act.put, List.setIfInBounds_toArray, List.set_cons_zero, List.set_cons_succ, i64_w, i32_w]
    rfl
  refine pure_ (i := 6) (N := some 23) (v := ?_) (a' := ?_) #[true, true, true, true, true, true, true, false, false, false] rfl rfl (by kernel_rfl) (fun _ _ _ h => h) (Or.inl ⟨by rfl, ?_⟩) ?_ ?_
  rotate_left
  · intro w'
    go_simp
    with_reducible rfl
  rotate_left
  · simp only [Act.put, List.setIfInBounds_toArray, List.set_cons_zero, List.set_cons_succ, i64_w, i32_w]
    rfl
  refine pure_ (i := 7) (N := some 24) (v := ?_) (a' := ?_) #[true, true, true, true, true, true, true, true, false, false] rfl rfl (by kernel_rfl) (fun _ _ _ h => h) (Or.inl ⟨by rfl, ?_⟩) ?_ ?_
  rotate_left
  · intro w'
    go_simp
    with_reducible rfl
  rotate_left
  · simp only [Act.put, List.setIfInBounds_toArray, List.set_cons_zero, List.set_cons_succ, i64_w, i32_w]
    rfl
  refine pure_ (i := 8) (N := some 25) (v := ?_) (a' := ?_) #[true, true, true, true, true, true, true, true, true, false] rfl rfl (by kernel_rfl) (fun _ _ _ h => h) (Or.inl ⟨by rfl, ?_⟩) ?_ ?_
  rotate_left
  · intro w'
    go_simp
    with_reducible rfl
  rotate_left
  · simp only [Act.put, List.setIfInBounds_toArray, List.set_cons_zero, List.set_cons_succ, i64_w, i32_w]
    rfl
  refine last_ (i := 9) (N := none) #[true, true, true, true, true, true, true, true, true, true] rfl rfl (by kernel_rfl) (by decide) (fun K hK => ?_)
  refine skip_ (w1 := ?_) (by rfl) rfl ?_ ?_
  rotate_left
  · go_simp
    rfl
  refine hK.out _ _ ?_
  clear hK K
  refine done_ (by kernel_rfl) ?_
  refine exit_at (fun W => Blk W b4 73 [.int .u64 n, .int .u64 size, .int .u64 a2, .int .u64 a3, .int .u64 a4, .int .u64 a5, .bool a6] ∧ Blk W w.heap.size 73 [.int .u64 0, .int .u64 0, .int .u64 0, .int .u64 0, .int .u64 0, .int .u64 0, .bool false] ∧ QueAt W q r pb ⟨room, bytes - size, dropped, gone, ps⟩ ∧ Keeps [q, r, pb] w W) ?_ ?_
  · have hB := Q2.blk
    have K20 : Keeps [q] W2 W2 := Keeps.refl _ _
    have KS : Keeps [q] W2 (W2.setCell ⟨q, 2, none⟩ (.int .u64 (bytes - size))) := (by (repeat (first | with_reducible exact K20 | with_reducible apply Keeps.drew | with_reducible apply Keeps.drewN | with_reducible apply Keeps.alloc | with_reducible apply Keeps.set_)); (all_goals (first | (left; simp; done) | (right; simp; done) | (right; simp; omega) | (right; omega))))
    have e4 : b4 ≠ q := by omega
    have e5 : w.heap.size ≠ q := by omega
    have e1 := Q2.ne1.symm
    have e2 := Q2.ne2.symm
    refine ⟨(by (repeat (first | with_reducible exact B2 | with_reducible apply Blk.drew | with_reducible apply Blk.drewN | with_reducible refine Blk.newAt (by simp; done) | with_reducible apply Blk.alloc | with_reducible apply Blk.set2 | with_reducible apply Blk.far)); (all_goals (first | rfl | assumption | (simp; done) | (simp; omega) | omega))), (by (repeat (first | with_reducible exact Y2 | with_reducible apply Blk.drew | with_reducible apply Blk.drewN | with_reducible refine Blk.newAt (by simp; done) | with_reducible apply Blk.alloc | with_reducible apply Blk.set2 | with_reducible apply Blk.far)); (all_goals (first | rfl | assumption | (simp; done) | (simp; omega) | omega))), ⟨(by (repeat (first | with_reducible exact hB | with_reducible apply Blk.drew | with_reducible apply Blk.drewN | with_reducible refine Blk.newAt (by simp; done) | with_reducible apply Blk.alloc | with_reducible apply Blk.set2 | with_reducible apply Blk.far)); (all_goals (first | rfl | assumption | (simp; done) | (simp; omega) | omega))), ?_⟩, ?_⟩
    · exact (Q2.row.keeps KS (by simp; omega) (by simp; omega)).keeps ((Keeps.refl [] _).drew) (by simp) (by simp)
    · exact ((K2.mono (by intro c hc; left; simp at hc ⊢; rcases hc with h | h <;> simp [h])).trans KS (by simp)).drew
  rintro W4 ⟨B4', Y4, Q4, K4⟩
  clear B2 Y2 Q2 K2 g2 f2 x1 hHeld
  have e5 : w.heap.size ≠ b4 := by omega
  have v0 := B4'.cell 0
  have v1 := B4'.cell 1
  have v2 := B4'.cell 2
  have v3 := B4'.cell 3
  have v4 := B4'.cell 4
  have v5 := B4'.cell 5
  have v6 := B4'.cell 6
  have y0 := Y4.cell 0
  have z0 := Y4.frozen 0
  have y1 := Y4.cell 1
  have z1 := Y4.frozen 1
  have y2 := Y4.cell 2
  have z2 := Y4.frozen 2
  have y3 := Y4.cell 3
  have z3 := Y4.frozen 3
  have y4 := Y4.cell 4
  have z4 := Y4.frozen 4
  have y5 := Y4.cell 5
  have z5 := Y4.frozen 5
  have y6 := Y4.cell 6
  have z6 := Y4.frozen 6
  simp only [List.getElem?_cons_zero, List.getElem?_cons_succ] at v0 v1 v2 v3 v4 v5 v6 y0 y1 y2 y3 y4 y5 y6
  go_wp2
  refine bodyPost_ret (v := .tuple #[.agg #[.int .u64 n, .int .u64 size, .int .u64 a2, .int .u64 a3, .int .u64 a4, .int .u64 a5, .bool a6], .bool true]) (by simp [results, Try.results98, go_sem, y0, y1, y2, y3, y4, y5, y6]) rfl ⟨rfl, ?_, ?_⟩
  · have K0 : Keeps [w.heap.size] W4 W4 := Keeps.refl _ _
    have hr4 := Q4.row.lt
    exact Q4.keeps (bs := [w.heap.size]) (by (repeat (first | with_reducible exact K0 | with_reducible apply Keeps.drew | with_reducible apply Keeps.drewN | with_reducible apply Keeps.alloc | with_reducible apply Keeps.set_)); (all_goals (first | (left; simp; done) | (right; simp; done) | (right; simp; omega) | (right; omega)))) (by simp; omega) (by simp; omega) (by simp; omega)
  · exact (by (repeat (first | with_reducible exact K4 | with_reducible apply Keeps.drew | with_reducible apply Keeps.drewN | with_reducible apply Keeps.alloc | with_reducible apply Keeps.set_)); (all_goals (first | (left; simp; done) | (right; simp; done) | (right; simp; omega) | (right; omega))))
end Go.Proofs.Ytjnojomfaikfjaa
