/- queue.Queue: Put that takes. -/
import Derived.Test.YtjnojomfaikfjaaQueueC
import Derived.Test.YtjnojomfaikfjaaRingGPk
namespace Go.Proofs.Ytjnojomfaikfjaa
set_option linter.unusedSimpArgs false
set_option linter.unusedVariables false
open Go.RowKit Go.Proofs.YtjnojomfaikfjaaW.PrintLast
theorem u64add (a b : Int) (ha : U64 a) (hb : U64 b) (h : a + b ≤ 18446744073709551615) : IntKind.u64.wrap (a + b) = a + b := by
  obtain ⟨h0, h1⟩ := ha
  obtain ⟨h2, h3⟩ := hb
  simp [IntKind.wrap, IntKind.signed, IntKind.bits]; omega
set_option maxHeartbeats 8000000 in
set_option maxRecDepth 100000 in
theorem que_put_yes (q r pb : Nat) (s : Que) (p : Pkt) (w : World) (h : QueAt w q r pb s) (ur : U64 s.room) (ub : U64 s.bytes) (up : U64 p.size) (hb : s.bytes ≤ s.room) (hp : p.size ≤ s.room - s.bytes) (hn : s.xs.length ≤ 1000000) :
    Calls Try.prog 59 #[.pointer (some ⟨q, 0, none⟩), p.val] w fun e w' => e = .returned (.bool true) ∧ (∃ pb', QueAt w' q r pb' ⟨s.room, s.bytes + p.size, s.dropped, s.gone, s.xs ++ [p]⟩ ∧ (pb' = pb ∨ w.heap.size ≤ pb')) ∧ Keeps [q, r, pb] w w' := by
  obtain ⟨room, bytes, dropped, gone, xs⟩ := s
  obtain ⟨n, size, a2, a3, a4, a5, a6⟩ := p
  dsimp only [Pkt.val] at *
  have k1 := u64sub room bytes ur ub hb
  have k2 := u64add bytes size ub up (by have := ur.2; omega)
  generalize hfree : room - bytes = free at *
  have hd : decide (size ≤ free) = true := by simpa using hp
  have g1 := h.c1
  have g2 := h.c2
  dsimp only at g1 g2
  go_enter Try.func59, Try.ntmps59
  go_wp2_with (fail)
  refine wp_at (fun W => Blk W w.heap.size 73 [.int .u64 n, .int .u64 size, .int .u64 a2, .int .u64 a3, .int .u64 a4, .int .u64 a5, .bool a6] ∧ QueAt W q r pb ⟨room, bytes, dropped, gone, xs⟩ ∧ Keeps [] w W) ?_ ?_
  · exact ⟨Blk.new w _ [.int .u64 n, .int .u64 size, .int .u64 a2, .int .u64 a3, .int .u64 a4, .int .u64 a5, .bool a6], h.keeps ((Keeps.refl [] w).alloc _) (by simp) (by simp) (by simp), (Keeps.refl [] w).alloc _⟩
  rintro W1 ⟨B1, H1, K1⟩
  have hqb : q < w.heap.size := h.blk.lt
  clear g1 g2 h
  have g1 := H1.c1
  have g2 := H1.c2
  have x1 := B1.cell 1
  simp only [List.getElem?_cons_zero, List.getElem?_cons_succ] at x1
  dsimp only at g1 g2
  generalize hb3 : w.heap.size = b3 at *
  refine start_ (n := 12) (S := fun w' => w'.cell? ⟨b3, 1, none⟩ = some (.int .u64 size) ∧ w'.cell? ⟨q, 1, none⟩ = some (.int .u64 room) ∧ w'.cell? ⟨q, 2, none⟩ = some (.int .u64 bytes)) (ds := []) #[false, false, false, false, false, false, false, false, false, false, false, false] (by kernel_rfl) rfl rfl ⟨x1, g1, g2⟩ (fun hHeld => ?_)
  refine pure_ (i := 0) (N := some 7) (v := ?_) (a' := ?_) #[true, false, false, false, false, false, false, false, false, false, false, false] rfl rfl (by kernel_rfl) (fun _ _ _ h => h) (Or.inl ⟨by rfl, ?_⟩) ?_ ?_
  rotate_left
  · intro w'
    go_simp
    with_reducible rfl
  rotate_left
  · simp only [Act.put, List.setIfInBounds_toArray, List.set_cons_zero, List.set_cons_succ, i64_w, i32_w]
    rfl
  refine pure_ (i := 2) (N := some 9) (v := ?_) (a' := ?_) #[true, false, true, false, false, false, false, false, false, false, false, false] rfl rfl (by kernel_rfl) (fun _ _ _ h => h) (Or.inl ⟨by rfl, ?_⟩) ?_ ?_
  rotate_left
  · intro w'
    go_simp
    with_reducible rfl
  rotate_left
  · simp only [Act.put, List.setIfInBounds_toArray, List.set_cons_zero, List.set_cons_succ, i64_w, i32_w]
    rfl
  refine pure_ (i := 3) (N := some 10) (v := ?_) (a' := ?_) #[true, false, true, true, false, false, false, false, false, false, false, false] rfl rfl (by kernel_rfl) (fun _ _ _ h => h) (Or.inl ⟨by rfl, ?_⟩) ?_ ?_
  rotate_left
  · intro w'
    go_simp
    with_reducible rfl
  rotate_left
  · simp only [Act.put, List.setIfInBounds_toArray, List.set_cons_zero, List.set_cons_succ, i64_w, i32_w]
    rfl
  refine pure_ (i := 4) (N := some 11) (v := ?_) (a' := ?_) #[true, false, true, true, true, false, false, false, false, false, false, false] rfl rfl (by kernel_rfl) (fun _ _ _ h => h) (Or.inl ⟨by rfl, ?_⟩) ?_ ?_
  rotate_left
  · intro w'
    go_simp
    with_reducible rfl
  rotate_left
  · simp only [Act.put, List.setIfInBounds_toArray, List.set_cons_zero, List.set_cons_succ, i64_w, i32_w]
    rfl
  refine pure_ (i := 6) (N := some 13) (v := ?_) (a' := ?_) #[true, false, true, true, true, false, true, false, false, false, false, false] rfl rfl (by kernel_rfl) (fun _ _ _ h => h) (Or.inl ⟨by rfl, ?_⟩) ?_ ?_
  rotate_left
  · intro w'
    go_simp
    with_reducible rfl
  rotate_left
  · simp only [Act.put, List.setIfInBounds_toArray, List.set_cons_zero, List.set_cons_succ, i64_w, i32_w]
    rfl
  refine pure_ (i := 7) (N := some 14) (v := ?_) (a' := ?_) #[true, false, true, true, true, false, true, true, false, false, false, false] rfl rfl (by kernel_rfl) (fun _ _ _ h => h) (Or.inl ⟨by rfl, ?_⟩) ?_ ?_
  rotate_left
  · intro w'
    go_simp
    with_reducible rfl
  rotate_left
  · simp only [Act.put, List.setIfInBounds_toArray, List.set_cons_zero, List.set_cons_succ, i64_w, i32_w]
    rfl
  refine pure_ (i := 8) (N := some 15) (v := ?_) (a' := ?_) #[true, false, true, true, true, false, true, true, true, false, false, false] rfl rfl (by kernel_rfl) (fun _ _ _ h => h) (Or.inl ⟨by rfl, ?_⟩) ?_ ?_
  rotate_left
  · intro w'
    go_simp
    with_reducible rfl
  rotate_left
  · simp only [Act.put, List.setIfInBounds_toArray, List.set_cons_zero, List.set_cons_succ, i64_w, i32_w]
    rfl
  refine take_ (i := 1) (N := some 8) (v := ?_) (a' := ?_) #[true, true, true, true, true, false, true, true, true, false, false, false] rfl rfl (by kernel_rfl) (fun _ _ _ h => h) (Or.inl ⟨by rfl, ?_⟩) hHeld ?_ ?_
  rotate_left
  · rintro w' ⟨s0, s1, s2⟩
    go_simp
    with_reducible rfl
  rotate_left
  · simp only [Act.put, List.setIfInBounds_toArray, List.set_cons_zero, List.set_cons_succ, i64_w, i32_w]
    rfl
  refine take_ (i := 5) (N := some 12) (v := ?_) (a' := ?_) #[true, true, true, true, true, true, true, true, true, false, false, false] rfl rfl (by kernel_rfl) (fun _ _ _ h => h) (Or.inl ⟨by rfl, ?_⟩) hHeld ?_ ?_
  rotate_left
  · rintro w' ⟨s0, s1, s2⟩
    go_simp
    with_reducible rfl
  rotate_left
  · simp only [Act.put, List.setIfInBounds_toArray, List.set_cons_zero, List.set_cons_succ, i64_w, i32_w]
    rfl
  refine take_ (i := 9) (N := some 16) (v := ?_) (a' := ?_) #[true, true, true, true, true, true, true, true, true, true, false, false] rfl rfl (by kernel_rfl) (fun _ _ _ h => h) (Or.inl ⟨by rfl, ?_⟩) hHeld ?_ ?_
  rotate_left
  · rintro w' ⟨s0, s1, s2⟩
    go_simp
    with_reducible rfl
  rotate_left
  · simp only [Act.put, List.setIfInBounds_toArray, List.set_cons_zero, List.set_cons_succ, i64_w, i32_w]
    rfl
  refine pure_ (i := 10) (N := some 17) (v := ?_) (a' := ?_) #[true, true, true, true, true, true, true, true, true, true, true, false] rfl rfl (by kernel_rfl) (fun _ _ _ h => h) (Or.inl ⟨by rfl, ?_⟩) ?_ ?_
  rotate_left
  · intro w'
    go_simp
    with_reducible rfl
  rotate_left
  · simp only [Act.put, List.setIfInBounds_toArray, List.set_cons_zero, List.set_cons_succ, i64_w, i32_w]
    rfl
  refine pure_ (i := 11) (N := some 18) (v := ?_) (a' := ?_) #[true, true, true, true, true, true, true, true, true, true, true, true] rfl rfl (by kernel_rfl) (fun _ _ _ h => h) (Or.inl ⟨by rfl, ?_⟩) ?_ ?_
  rotate_left
  · intro w'
    go_simp
    with_reducible rfl
  rotate_left
  · simp only [Act.put, List.setIfInBounds_toArray, List.set_cons_zero, List.set_cons_succ, i64_w, i32_w]
    rfl
  refine done_ (by kernel_rfl) ?_
  go_wp2_with (fail)
  refine wp_at (fun W => Blk W b3 73 [.int .u64 n, .int .u64 size, .int .u64 a2, .int .u64 a3, .int .u64 a4, .int .u64 a5, .bool a6] ∧ QueAt W q r pb ⟨room, bytes, dropped, gone, xs⟩ ∧ Keeps [] w W) ?_ ?_
  · exact ⟨B1.drew, H1.keeps ((Keeps.refl [] W1).drew) (by simp) (by simp) (by simp), K1.drew⟩
  rintro W2 ⟨B2, H2, K2⟩
  clear g1 g2 x1 hHeld B1 H1 K1
  have g2 := H2.c2
  have f2 := H2.blk.frozen 2
  have x1 := B2.cell 1
  simp only [List.getElem?_cons_zero, List.getElem?_cons_succ] at x1
  dsimp only at g2
  refine start_ (n := 10) (S := fun w' => w'.cell? ⟨q, 2, none⟩ = some (.int .u64 bytes) ∧ w'.cell? ⟨b3, 1, none⟩ = some (.int .u64 size)) (ds := [9]) #[false, false, false, false, false, false, false, false, false, false] (by kernel_rfl) rfl rfl ⟨g2, x1⟩ (fun hHeld => ?_)
  refine pure_ (i := 0) (N := some 19) (v := ?_) (a' := ?_) #[true, false, false, false, false, false, false, false, false, false] rfl rfl (by kernel_rfl) (fun _ _ _ h => h) (Or.inl ⟨by rfl, ?_⟩) ?_ ?_
  rotate_left
  · intro w'
    go_simp
    with_reducible rfl
  rotate_left
  · simp only [Act.put, List.setIfInBounds_toArray, List.set_cons_zero, List.set_cons_succ, i64_w, i32_w]
    rfl
  refine pure_ (i := 1) (N := some 20) (v := ?_) (a' := ?_) #[true, true, false, false, false, false, false, false, false, false] rfl rfl (by kernel_rfl) (fun _ _ _ h => h) (Or.inl ⟨by rfl, ?_⟩) ?_ ?_
  rotate_left
  · intro w'
    go_simp
    with_reducible rfl
  rotate_left
  · simp only [Act.put, List.setIfInBounds_toArray, List.set_cons_zero, List.set_cons_succ, i64_w, i32_w]
    rfl
  refine pure_ (i := 2) (N := some 21) (v := ?_) (a' := ?_) #[true, true, true, false, false, false, false, false, false, false] rfl rfl (by kernel_rfl) (fun _ _ _ h => h) (Or.inl ⟨by rfl, ?_⟩) ?_ ?_
  rotate_left
  · intro w'
    go_simp
    with_reducible rfl
  rotate_left
  · simp only [Act.put, List.setIfInBounds_toArray, List.set_cons_zero, List.set_cons_succ, i64_w, i32_w]
    rfl
  refine pure_ (i := 4) (N := some 23) (v := ?_) (a' := ?_) #[true, true, true, false, true, false, false, false, false, false] rfl rfl (by kernel_rfl) (fun _ _ _ h => h) (Or.inl ⟨by rfl, ?_⟩) ?_ ?_
  rotate_left
  · intro w'
    go_simp
    with_reducible rfl
  rotate_left
  · simp only [Act.put, List.setIfInBounds_toArray, List.set_cons_zero, List.set_cons_succ, i64_w, i32_w]
    rfl
  refine take_ (i := 3) (N := some 22) (v := ?_) (a' := ?_) #[true, true, true, true, true, false, false, false, false, false] rfl rfl (by kernel_rfl) (fun _ _ _ h => h) (Or.inl ⟨by rfl, ?_⟩) hHeld ?_ ?_
  rotate_left
  · rintro w' ⟨s0, s1⟩
    go_simp
    with_reducible rfl
  rotate_left
  · simp only [Act.put, List.setIfInBounds_toArray, List.set_cons_zero, List.set_cons_succ, i64_w, i32_w]
    rfl
  refine take_ (i := 5) (N := some 24) (v := ?_) (a' := ?_) #[true, true, true, true, true, true, false, false, false, false] rfl rfl (by kernel_rfl) (fun _ _ _ h => h) (Or.inl ⟨by rfl, ?_⟩) hHeld ?_ ?_
  rotate_left
  · rintro w' ⟨s0, s1⟩
    go_simp
    with_reducible rfl
  rotate_left
  · simp only [Act.put, List.setIfInBounds_toArray, List.set_cons_zero, List.set_cons_succ, i64_w, i32_w]
    rfl
  refine pure_ (i := 6) (N := some 25) (v := ?_) (a' := ?_) #[true, true, true, true, true, true, true, false, false, false] rfl rfl (by kernel_rfl) (fun _ _ _ h => h) (Or.inl ⟨by rfl, ?_⟩) ?_ ?_
  rotate_left
  · intro w'
    go_simp
    with_reducible rfl
  rotate_left
  · simp only [Act.put, List.setIfInBounds_toArray, List.set_cons_zero, List.set_cons_succ, i64_w, i32_w]
    rfl
  refine pure_ (i := 7) (N := some 26) (v := ?_) (a' := ?_) #[true, true, true, true, true, true, true, true, false, false] rfl rfl (by kernel_rfl) (fun _ _ _ h => h) (Or.inl ⟨by rfl, ?_⟩) ?_ ?_
  rotate_left
  · intro w'
    go_simp
    with_reducible rfl
  rotate_left
  · simp only [Act.put, List.setIfInBounds_toArray, List.set_cons_zero, List.set_cons_succ, i64_w, i32_w]
    rfl
  refine pure_ (i := 8) (N := some 27) (v := ?_) (a' := ?_) #[true, true, true, true, true, true, true, true, true, false] rfl rfl (by kernel_rfl) (fun _ _ _ h => h) (Or.inl ⟨by rfl, ?_⟩) ?_ ?_
  rotate_left
  · intro w'
    go_simp
    with_reducible rfl
  rotate_left
  · simp only [Act.put, List.setIfInBounds_toArray, List.set_cons_zero, List.set_cons_succ, i64_w, i32_w]
    rfl
  refine last_ (i := 9) (N := none) #[true, true, true, true, true, true, true, true, true, true] rfl rfl (by kernel_rfl) (by decide) (fun K hK => ?_)
  refine skip_ (w1 := ?_) (by rfl) rfl ?_ ?_
  rotate_left
  · go_simp
    rfl
  refine hK.out _ _ ?_
  clear hK K
  refine done_ (by kernel_rfl) ?_
  go_wp2_with (fail)
  refine wp_at (fun W => Blk W b3 73 [.int .u64 n, .int .u64 size, .int .u64 a2, .int .u64 a3, .int .u64 a4, .int .u64 a5, .bool a6] ∧ QueAt W q r pb ⟨room, bytes + size, dropped, gone, xs⟩ ∧ Keeps [q] w W) ?_ ?_
  · have hB := H2.blk
    have K20 : Keeps [q] W2 W2 := Keeps.refl _ _
    have KS : Keeps [q] W2 (W2.setCell ⟨q, 2, none⟩ (.int .u64 (bytes + size))) := (by (repeat (first | with_reducible exact K20 | with_reducible apply Keeps.drew | with_reducible apply Keeps.drewN | with_reducible apply Keeps.alloc | with_reducible apply Keeps.set_)); (all_goals (first | (left; simp; done) | (right; simp; done) | (right; simp; omega) | (right; omega))))
    have hqb3 : b3 ≠ q := by omega
    have n1 := H2.ne1.symm
    have n2 := H2.ne2.symm
    refine ⟨(by (repeat (first | with_reducible exact B2 | with_reducible apply Blk.drew | with_reducible apply Blk.drewN | with_reducible refine Blk.newAt (by simp; done) | with_reducible apply Blk.alloc | with_reducible apply Blk.set2 | with_reducible apply Blk.far)); (all_goals (first | rfl | assumption | (simp; done) | (simp; omega) | omega))), ⟨(by (repeat (first | with_reducible exact hB | with_reducible apply Blk.drew | with_reducible apply Blk.drewN | with_reducible refine Blk.newAt (by simp; done) | with_reducible apply Blk.alloc | with_reducible apply Blk.set2 | with_reducible apply Blk.far)); (all_goals (first | rfl | assumption | (simp; done) | (simp; omega) | omega))), ?_⟩, ?_⟩
    · exact (H2.row.keeps KS (by simp; omega) (by simp; omega)).keeps ((Keeps.refl [] _).drew) (by simp) (by simp)
    · exact ((K2.mono (by simp)).trans KS (by simp)).drew
  rintro W3 ⟨B3, H3, K3⟩
  clear g2 f2 x1 hHeld B2 H2 K2
  have g0 := H3.c0
  have x0 := B3.cell 0
  have x1 := B3.cell 1
  have x2 := B3.cell 2
  have x3 := B3.cell 3
  have x4 := B3.cell 4
  have x5 := B3.cell 5
  have x6 := B3.cell 6
  simp only [List.getElem?_cons_zero, List.getElem?_cons_succ] at x0 x1 x2 x3 x4 x5 x6
  refine start_ (n := 6) (S := fun w' => w'.cell? ⟨q, 0, none⟩ = some (.pointer (some ⟨r, 0, none⟩)) ∧ w'.cell? ⟨b3, 0, none⟩ = some (.int .u64 n) ∧ w'.cell? ⟨b3, 1, none⟩ = some (.int .u64 size) ∧ w'.cell? ⟨b3, 2, none⟩ = some (.int .u64 a2) ∧ w'.cell? ⟨b3, 3, none⟩ = some (.int .u64 a3) ∧ w'.cell? ⟨b3, 4, none⟩ = some (.int .u64 a4) ∧ w'.cell? ⟨b3, 5, none⟩ = some (.int .u64 a5) ∧ w'.cell? ⟨b3, 6, none⟩ = some (.bool a6)) (ds := [5]) #[false, false, false, false, false, false] (by kernel_rfl) rfl rfl ⟨g0, x0, x1, x2, x3, x4, x5, x6⟩ (fun hHeld => ?_)
  refine pure_ (i := 0) (N := some 28) (v := ?_) (a' := ?_) #[true, false, false, false, false, false] rfl rfl (by kernel_rfl) (fun _ _ _ h => h) (Or.inl ⟨by rfl, ?_⟩) ?_ ?_
  rotate_left
  · intro w'
    go_simp
    with_reducible rfl
  rotate_left
  · simp only [Act.put, List.setIfInBounds_toArray, List.set_cons_zero, List.set_cons_succ, i64_w, i32_w]
    rfl
  refine pure_ (i := 1) (N := some 29) (v := ?_) (a' := ?_) #[true, true, false, false, false, false] rfl rfl (by kernel_rfl) (fun _ _ _ h => h) (Or.inl ⟨by rfl, ?_⟩) ?_ ?_
  rotate_left
  · intro w'
    go_simp
    with_reducible rfl
  rotate_left
  · simp only [Act.put, List.setIfInBounds_toArray, List.set_cons_zero, List.set_cons_succ, i64_w, i32_w]
    rfl
  refine pure_ (i := 2) (N := some 30) (v := ?_) (a' := ?_) #[true, true, true, false, false, false] rfl rfl (by kernel_rfl) (fun _ _ _ h => h) (Or.inl ⟨by rfl, ?_⟩) ?_ ?_
  rotate_left
  · intro w'
    go_simp
    with_reducible rfl
  rotate_left
  · simp only [Act.put, List.setIfInBounds_toArray, List.set_cons_zero, List.set_cons_succ, i64_w, i32_w]
    rfl
  refine take_ (i := 3) (N := some 31) (v := ?_) (a' := ?_) #[true, true, true, true, false, false] rfl rfl (by kernel_rfl) (fun _ _ _ h => h) (Or.inl ⟨by rfl, ?_⟩) hHeld ?_ ?_
  rotate_left
  · rintro w' ⟨s0, s1, s2, s3, s4, s5, s6, s7⟩
    go_simp
    with_reducible rfl
  rotate_left
  · simp only [Act.put, List.setIfInBounds_toArray, List.set_cons_zero, List.set_cons_succ, i64_w, i32_w]
    rfl
  refine take_ (i := 4) (N := some 32) (v := ?_) (a' := ?_) #[true, true, true, true, true, false] rfl rfl (by kernel_rfl) (fun _ _ _ h => h) (Or.inl ⟨by rfl, ?_⟩) hHeld ?_ ?_
  rotate_left
  · rintro w' ⟨s0, s1, s2, s3, s4, s5, s6, s7⟩
    go_simp
    with_reducible rfl
  rotate_left
  · simp only [Act.put, List.setIfInBounds_toArray, List.set_cons_zero, List.set_cons_succ, i64_w, i32_w]
    rfl
  refine last_ (i := 5) (N := some 33) #[true, true, true, true, true, true] rfl rfl (by kernel_rfl) (by decide) (fun K hK => ?_)
  refine goes_ Try.func103 (by kernel_rfl) rfl #[.pointer (some ⟨r, 0, none⟩), .agg #[.int .u64 n, .int .u64 size, .int .u64 a2, .int .u64 a3, .int .u64 a4, .int .u64 a5, .bool a6]] (by rfl) rfl rfl (by simp only [List.map_toArray, List.map_cons, List.map_nil]; rfl) ?_
  with_reducible refine (Pk.push r pb n size a2 a3 a4 a5 a6 _ W3.drew (H3.row.keeps ((Keeps.refl [] W3).drew) (by simp) (by simp)) (by simp; omega)).mono ?_
  rintro e w4 ⟨rfl, ⟨pb', hrow4, hpb4⟩, k4⟩
  refine ⟨_, rfl, ?_⟩
  refine hK.out _ _ ?_
  clear hK K
  refine norm_ (a' := ?_) ?_ ?_
  rotate_left
  · show Act.put _ (some 33) _ = _
    simp only [Act.put, List.setIfInBounds_toArray, List.set_cons_zero, List.set_cons_succ, i64_w, i32_w]
    rfl
  refine done_ (by kernel_rfl) ?_
  have n1 := H3.ne1
  have n2 := H3.ne2
  have hs3 : w.heap.size ≤ W3.heap.size := K3.size
  have hfin : QueAt w4 q r pb' ⟨room, bytes + size, dropped, gone, xs ++ [⟨n, size, a2, a3, a4, a5, a6⟩]⟩ := by
    refine ⟨(H3.blk.drew).keeps k4 (by simp; exact ⟨n1, n2⟩), ?_⟩
    simpa [Pkt.cells] using hrow4
  have K4 : Keeps [q, r, pb] w w4 := ((K3.mono (by simp)).drew).trans k4 (by intro c hc; left; simp at hc ⊢; rcases hc with h | h <;> simp [h])
  have hpb : pb' = pb ∨ w.heap.size ≤ pb' := by
    rcases hpb4 with h | h
    · exact .inl h
    · right; exact Nat.le_trans hs3 h
  clear hrow4 k4 H3 B3 K3 hpb4
  go_wp2
  go_ret
  exact ⟨rfl, ⟨pb', hfin, hpb⟩, K4⟩
end Go.Proofs.Ytjnojomfaikfjaa
