/- The walks of ring.Ring[api.Packet]: Push where there is none; Push. -/
import Derived.Test.YtjnojomfaikfjaaRingFPk
namespace Go.Proofs.Ytjnojomfaikfjaa
set_option linter.unusedSimpArgs false
set_option linter.unusedVariables false
open Go.RowKit Go.Proofs.YtjnojomfaikfjaaW.PrintLast
namespace Pk
set_option maxHeartbeats 40000000 in
set_option maxRecDepth 100000 in
theorem push_full (r pb N C frm : Nat) (cells : List Value) (a0 a1 a2 a3 a4 a5 : Int) (a6 : Bool) (xs : List (List Value)) (w : World) (h : RingIs 73 196 7 w r pb N C frm cells xs) (hlt : xs.length = N) (hN : N ≤ 2147483648) :
    Calls Try.prog 103 #[.pointer (some ⟨r, 0, none⟩), .agg #[.int .u64 a0, .int .u64 a1, .int .u64 a2, .int .u64 a3, .int .u64 a4, .int .u64 a5, .bool a6]] w fun e w' => e = .returned (.tuple #[]) ∧ (∃ pb', At w' r pb' (xs ++ [[.int .u64 a0, .int .u64 a1, .int .u64 a2, .int .u64 a3, .int .u64 a4, .int .u64 a5, .bool a6]]) ∧ w.heap.size ≤ pb') ∧ Keeps [r] w w' := by
  subst hlt
  have hr := h.ring.lt
  have h1 := h.keeps ((Keeps.refl [] w).alloc (.cells #[.int .u64 a0, .int .u64 a1, .int .u64 a2, .int .u64 a3, .int .u64 a4, .int .u64 a5, .bool a6] 73)) (by simp) (by simp)
  have hgrow := grow r pb xs.length C frm cells xs _ h1 hN
  have b3 := Blk.new w 73 [.int .u64 a0, .int .u64 a1, .int .u64 a2, .int .u64 a3, .int .u64 a4, .int .u64 a5, .bool a6]
  have g0 := h1.c0
  have g2 := h1.c2
  go_enter Try.func103, Try.ntmps103
  go_wp2_with (fail)
  refine start_ (n := 10) (S := fun w' => w'.cell? ⟨r, 0, none⟩ = some (.slice (some ⟨pb, 0, none⟩) xs.length C) ∧ w'.cell? ⟨r, 2, none⟩ = some (.int .i64 xs.length)) (ds := []) #[false, false, false, false, false, false, false, false, false, false] (by kernel_rfl) rfl rfl ⟨g0, g2⟩ (fun hHeld => ?_)
  refine pure_ (i := 0) (N := some 6) (v := ?_) (a' := ?_) #[true, false, false, false, false, false, false, false, false, false] rfl rfl (by kernel_rfl) (fun _ _ _ h => h) (Or.inl ⟨by rfl, ?_⟩) ?_ ?_
  rotate_left
  · intro w'
    go_simp
    with_reducible rfl
  rotate_left
  · simp only [Act.put, List.setIfInBounds_toArray, List.set_cons_zero, List.set_cons_succ, i64_w, i32_w]
    rfl
  refine pure_ (i := 1) (N := some 7) (v := ?_) (a' := ?_) #[true, true, false, false, false, false, false, false, false, false] rfl rfl (by kernel_rfl) (fun _ _ _ h => h) (Or.inl ⟨by rfl, ?_⟩) ?_ ?_
  rotate_left
  · intro w'
    go_simp
    with_reducible rfl
  rotate_left
  · simp only [Act.put, List.setIfInBounds_toArray, List.set_cons_zero, List.set_cons_succ, i64_w, i32_w]
    rfl
  refine pure_ (i := 2) (N := some 8) (v := ?_) (a' := ?_) #[true, true, true, false, false, false, false, false, false, false] rfl rfl (by kernel_rfl) (fun _ _ _ h => h) (Or.inl ⟨by rfl, ?_⟩) ?_ ?_
  rotate_left
  · intro w'
    go_simp
    with_reducible rfl
  rotate_left
  · simp only [Act.put, List.setIfInBounds_toArray, List.set_cons_zero, List.set_cons_succ, i64_w, i32_w]
    rfl
  refine pure_ (i := 4) (N := some 10) (v := ?_) (a' := ?_) #[true, true, true, false, true, false, false, false, false, false] rfl rfl (by kernel_rfl) (fun _ _ _ h => h) (Or.inl ⟨by rfl, ?_⟩) ?_ ?_
  rotate_left
  · intro w'
    go_simp
    with_reducible rfl
  rotate_left
  · simp only [Act.put, List.setIfInBounds_toArray, List.set_cons_zero, List.set_cons_succ, i64_w, i32_w]
    rfl
  refine pure_ (i := 5) (N := some 11) (v := ?_) (a' := ?_) #[true, true, true, false, true, true, false, false, false, false] rfl rfl (by kernel_rfl) (fun _ _ _ h => h) (Or.inl ⟨by rfl, ?_⟩) ?_ ?_
  rotate_left
  · intro w'
    go_simp
    with_reducible rfl
  rotate_left
  · simp only [Act.put, List.setIfInBounds_toArray, List.set_cons_zero, List.set_cons_succ, i64_w, i32_w]
    rfl
  refine pure_ (i := 6) (N := some 12) (v := ?_) (a' := ?_) #[true, true, true, false, true, true, true, false, false, false] rfl rfl (by kernel_rfl) (fun _ _ _ h => h) (Or.inl ⟨by rfl, ?_⟩) ?_ ?_
  rotate_left
  · intro w'
    go_simp
    with_reducible rfl
  rotate_left
  · simp only [Act.put, List.setIfInBounds_toArray, List.set_cons_zero, List.set_cons_succ, i64_w, i32_w]
    rfl
  refine take_ (i := 3) (N := some 9) (v := ?_) (a' := ?_) #[true, true, true, true, true, true, true, false, false, false] rfl rfl (by kernel_rfl) (fun _ _ _ h => h) (Or.inl ⟨by rfl, ?_⟩) hHeld ?_ ?_
  rotate_left
  · rintro w' ⟨s0, s1⟩
    go_simp
    with_reducible rfl
  rotate_left
  · simp only [Act.put, List.setIfInBounds_toArray, List.set_cons_zero, List.set_cons_succ, i64_w, i32_w]
    rfl
  refine take_ (i := 7) (N := some 13) (v := ?_) (a' := ?_) #[true, true, true, true, true, true, true, true, false, false] rfl rfl (by kernel_rfl) (fun _ _ _ h => h) (Or.inl ⟨by rfl, ?_⟩) hHeld ?_ ?_
  rotate_left
  · rintro w' ⟨s0, s1⟩
    go_simp
    with_reducible rfl
  rotate_left
  · simp only [Act.put, List.setIfInBounds_toArray, List.set_cons_zero, List.set_cons_succ, i64_w, i32_w]
    rfl
  refine pure_ (i := 8) (N := some 14) (v := ?_) (a' := ?_) #[true, true, true, true, true, true, true, true, true, false] rfl rfl (by kernel_rfl) (fun _ _ _ h => h) (Or.inl ⟨by rfl, ?_⟩) ?_ ?_
  rotate_left
  · intro w'
    go_simp
    with_reducible rfl
  rotate_left
  · simp only [Act.put, List.setIfInBounds_toArray, List.set_cons_zero, List.set_cons_succ, i64_w, i32_w]
    rfl
  refine pure_ (i := 9) (N := some 15) (v := ?_) (a' := ?_) #[true, true, true, true, true, true, true, true, true, true] rfl rfl (by kernel_rfl) (fun _ _ _ h => h) (Or.inl ⟨by rfl, ?_⟩) ?_ ?_
  rotate_left
  · intro w'
    go_simp
    with_reducible rfl
  rotate_left
  · simp only [Act.put, List.setIfInBounds_toArray, List.set_cons_zero, List.set_cons_succ, i64_w, i32_w]
    rfl
  refine done_ (by kernel_rfl) ?_
  have hgrow := grow r pb xs.length C frm cells xs _ (h1.keeps ((Keeps.refl [] _).drew) (by simp) (by simp)) hN
  clear hHeld
  go_wp2_with (fail)
  refine hgrow.mono ?_
  rintro e w1 ⟨rfl, pb', C', cells', h', hpb', hk'⟩
  have T0 : Blk w1 w.heap.size 73 [.int .u64 a0, .int .u64 a1, .int .u64 a2, .int .u64 a3, .int .u64 a4, .int .u64 a5, .bool a6] := b3.drew.keeps hk' (by simp; omega)
  have K0 : Keeps [r] w w1 := ((Keeps.refl [r] w).alloc _).drew.trans hk' (by simp)
  simp only [World.size_drew, World.size_alloc] at hpb'
  clear hgrow b3 g0 g2 h1 hk'
  have hN' : Hid (2 * xs.length = 2 * xs.length) := rfl
  generalize hNN : 2 * xs.length = N' at *
  have hlt' : xs.length < N' := by have := h.four; omega
  clear hNN hN'
  have hne : r ≠ pb' := h'.ring.ne_ h'.places (by decide)
  have hm := h'.most
  have hrb := h'.rb.push [.int .u64 a0, .int .u64 a1, .int .u64 a2, .int .u64 a3, .int .u64 a4, .int .u64 a5, .bool a6] rfl hlt'
  have hcl := h'.len
  have hnc := h'.nc
  have f1 := h'.rb.frm_lt
  have f2 := h'.four
  have c1 := i64k ((xs.length : Int) + 1) (by omega) (by omega)
  have c2 := i64w ((xs.length : Int) + 1) (by omega) (by omega)
  have c3 := i64k (xs.length : Int) (by omega) (by omega)
  have c4 : ((xs.length : Int) + 1 - 1) = (xs.length : Int) := by omega
  have c5 := i64w (xs.length : Int) (by omega) (by omega)
  have g2 := h'.c2
  have k2 := h'.ring.frozen 2
  obtain ⟨s, hs⟩ : ∃ s, Hid (s = YtjnojomfaikfjaaR.slot 0 N' xs.length) := ⟨_, rfl⟩
  have y0 : ∃ u0, w1.cell? ⟨pb', s * 7 + 0, none⟩ = some u0 := by
    rw [h'.places.cell]
    have : s * 7 + 0 < cells'.length := by have e1 := YtjnojomfaikfjaaR.slot_lt (i := xs.length) f1; rw [← hs.out] at e1; rw [hcl]; have := YtjnojomfaikfjaaR.mul_le e1 7 (Nat.le_refl _); have := Nat.mul_le_mul_right 7 hnc; omega
    exact ⟨_, List.getElem?_eq_getElem this⟩
  obtain ⟨u0, y0⟩ := y0
  have z0 := h'.places.frozen (s * 7 + 0)
  have y1 : ∃ u1, w1.cell? ⟨pb', s * 7 + 1, none⟩ = some u1 := by
    rw [h'.places.cell]
    have : s * 7 + 1 < cells'.length := by have e1 := YtjnojomfaikfjaaR.slot_lt (i := xs.length) f1; rw [← hs.out] at e1; rw [hcl]; have := YtjnojomfaikfjaaR.mul_le e1 7 (Nat.le_refl _); have := Nat.mul_le_mul_right 7 hnc; omega
    exact ⟨_, List.getElem?_eq_getElem this⟩
  obtain ⟨u1, y1⟩ := y1
  have z1 := h'.places.frozen (s * 7 + 1)
  have y2 : ∃ u2, w1.cell? ⟨pb', s * 7 + 2, none⟩ = some u2 := by
    rw [h'.places.cell]
    have : s * 7 + 2 < cells'.length := by have e1 := YtjnojomfaikfjaaR.slot_lt (i := xs.length) f1; rw [← hs.out] at e1; rw [hcl]; have := YtjnojomfaikfjaaR.mul_le e1 7 (Nat.le_refl _); have := Nat.mul_le_mul_right 7 hnc; omega
    exact ⟨_, List.getElem?_eq_getElem this⟩
  obtain ⟨u2, y2⟩ := y2
  have z2 := h'.places.frozen (s * 7 + 2)
  have y3 : ∃ u3, w1.cell? ⟨pb', s * 7 + 3, none⟩ = some u3 := by
    rw [h'.places.cell]
    have : s * 7 + 3 < cells'.length := by have e1 := YtjnojomfaikfjaaR.slot_lt (i := xs.length) f1; rw [← hs.out] at e1; rw [hcl]; have := YtjnojomfaikfjaaR.mul_le e1 7 (Nat.le_refl _); have := Nat.mul_le_mul_right 7 hnc; omega
    exact ⟨_, List.getElem?_eq_getElem this⟩
  obtain ⟨u3, y3⟩ := y3
  have z3 := h'.places.frozen (s * 7 + 3)
  have y4 : ∃ u4, w1.cell? ⟨pb', s * 7 + 4, none⟩ = some u4 := by
    rw [h'.places.cell]
    have : s * 7 + 4 < cells'.length := by have e1 := YtjnojomfaikfjaaR.slot_lt (i := xs.length) f1; rw [← hs.out] at e1; rw [hcl]; have := YtjnojomfaikfjaaR.mul_le e1 7 (Nat.le_refl _); have := Nat.mul_le_mul_right 7 hnc; omega
    exact ⟨_, List.getElem?_eq_getElem this⟩
  obtain ⟨u4, y4⟩ := y4
  have z4 := h'.places.frozen (s * 7 + 4)
  have y5 : ∃ u5, w1.cell? ⟨pb', s * 7 + 5, none⟩ = some u5 := by
    rw [h'.places.cell]
    have : s * 7 + 5 < cells'.length := by have e1 := YtjnojomfaikfjaaR.slot_lt (i := xs.length) f1; rw [← hs.out] at e1; rw [hcl]; have := YtjnojomfaikfjaaR.mul_le e1 7 (Nat.le_refl _); have := Nat.mul_le_mul_right 7 hnc; omega
    exact ⟨_, List.getElem?_eq_getElem this⟩
  obtain ⟨u5, y5⟩ := y5
  have z5 := h'.places.frozen (s * 7 + 5)
  have y6 : ∃ u6, w1.cell? ⟨pb', s * 7 + 6, none⟩ = some u6 := by
    rw [h'.places.cell]
    have : s * 7 + 6 < cells'.length := by have e1 := YtjnojomfaikfjaaR.slot_lt (i := xs.length) f1; rw [← hs.out] at e1; rw [hcl]; have := YtjnojomfaikfjaaR.mul_le e1 7 (Nat.le_refl _); have := Nat.mul_le_mul_right 7 hnc; omega
    exact ⟨_, List.getElem?_eq_getElem this⟩
  obtain ⟨u6, y6⟩ := y6
  have z6 := h'.places.frozen (s * 7 + 6)
  simp only [Nat.add_zero] at y0 z0
  go_wp2_with (fail)
  have hR : Blk w1 r 196 [.slice (some ⟨pb', 0, none⟩) N' C', .int .i64 ((0 : Nat) : Int), .int .i64 xs.length] := h'.ring
  have P : Blk w1 pb' 73 cells' := h'.places
  have K0' := K0.mono (cs := [r, pb']) (by simp)
  refine wp_at (fun W => Blk W r 196 [.slice (some ⟨pb', 0, none⟩) N' C', .int .i64 ((0 : Nat) : Int), .int .i64 ((xs.length : Int) + 1)] ∧ Blk W pb' 73 cells' ∧ Blk W w.heap.size 73 [.int .u64 a0, .int .u64 a1, .int .u64 a2, .int .u64 a3, .int .u64 a4, .int .u64 a5, .bool a6] ∧ Keeps [r, pb'] w W) ?_ ?_
  · exact ⟨(by (repeat (first | with_reducible exact hR | with_reducible apply Blk.drew | with_reducible apply Blk.drewN | with_reducible refine Blk.newAt (by simp; done) | with_reducible apply Blk.alloc | with_reducible apply Blk.set2 | with_reducible apply Blk.far)); (all_goals (first | rfl | assumption | (simp; done) | (simp; omega) | omega))), (by (repeat (first | with_reducible exact P | with_reducible apply Blk.drew | with_reducible apply Blk.drewN | with_reducible refine Blk.newAt (by simp; done) | with_reducible apply Blk.alloc | with_reducible apply Blk.set2 | with_reducible apply Blk.far)); (all_goals (first | rfl | assumption | (simp; done) | (simp; omega) | omega))), (by (repeat (first | with_reducible exact T0 | with_reducible apply Blk.drew | with_reducible apply Blk.drewN | with_reducible refine Blk.newAt (by simp; done) | with_reducible apply Blk.alloc | with_reducible apply Blk.set2 | with_reducible apply Blk.far)); (all_goals (first | rfl | assumption | (simp; done) | (simp; omega) | omega))), (by (repeat (first | with_reducible exact K0' | with_reducible apply Keeps.drew | with_reducible apply Keeps.drewN | with_reducible apply Keeps.alloc | with_reducible apply Keeps.set_)); (all_goals (first | (left; simp; done) | (right; simp; done) | (right; simp; omega) | (right; omega))))⟩
  rintro W2 ⟨R2, P2, T3, K2⟩
  clear g2 k2 T0 P K0 K0' hR
  have y0 : W2.cell? ⟨pb', s * 7 + 0, none⟩ = some u0 := (P2.cell _).trans ((h'.places.cell (s * 7 + 0)).symm.trans y0)
  have y1 : W2.cell? ⟨pb', s * 7 + 1, none⟩ = some u1 := (P2.cell _).trans ((h'.places.cell (s * 7 + 1)).symm.trans y1)
  have y2 : W2.cell? ⟨pb', s * 7 + 2, none⟩ = some u2 := (P2.cell _).trans ((h'.places.cell (s * 7 + 2)).symm.trans y2)
  have y3 : W2.cell? ⟨pb', s * 7 + 3, none⟩ = some u3 := (P2.cell _).trans ((h'.places.cell (s * 7 + 3)).symm.trans y3)
  have y4 : W2.cell? ⟨pb', s * 7 + 4, none⟩ = some u4 := (P2.cell _).trans ((h'.places.cell (s * 7 + 4)).symm.trans y4)
  have y5 : W2.cell? ⟨pb', s * 7 + 5, none⟩ = some u5 := (P2.cell _).trans ((h'.places.cell (s * 7 + 5)).symm.trans y5)
  have y6 : W2.cell? ⟨pb', s * 7 + 6, none⟩ = some u6 := (P2.cell _).trans ((h'.places.cell (s * 7 + 6)).symm.trans y6)
  have q0 := R2.cell 0
  have q1 := R2.cell 1
  have q2 := R2.cell 2
  have x0 := T3.cell 0
  have x1 := T3.cell 1
  have x2 := T3.cell 2
  have x3 := T3.cell 3
  have x4 := T3.cell 4
  have x5 := T3.cell 5
  have x6 := T3.cell 6
  simp only [Nat.add_zero, List.getElem?_cons_zero, List.getElem?_cons_succ] at y0 q0 q1 q2 x0 x1 x2 x3 x4 x5 x6
  have z0 := P2.frozen (s * 7 + 0)
  have z1 := P2.frozen (s * 7 + 1)
  have z2 := P2.frozen (s * 7 + 2)
  have z3 := P2.frozen (s * 7 + 3)
  have z4 := P2.frozen (s * 7 + 4)
  have z5 := P2.frozen (s * 7 + 5)
  have z6 := P2.frozen (s * 7 + 6)
  simp only [Nat.add_zero] at z0
  refine start_ (n := 10) (S := fun w' => w'.cell? ⟨r, 0, none⟩ = some (.slice (some ⟨pb', 0, none⟩) N' C') ∧ w'.cell? ⟨r, 1, none⟩ = some (.int .i64 ((0 : Nat) : Int)) ∧ w'.cell? ⟨r, 2, none⟩ = some (.int .i64 ((xs.length : Int) + 1)) ∧ w'.cell? ⟨w.heap.size, 0, none⟩ = some (.int .u64 a0) ∧ w'.cell? ⟨w.heap.size, 1, none⟩ = some (.int .u64 a1) ∧ w'.cell? ⟨w.heap.size, 2, none⟩ = some (.int .u64 a2) ∧ w'.cell? ⟨w.heap.size, 3, none⟩ = some (.int .u64 a3) ∧ w'.cell? ⟨w.heap.size, 4, none⟩ = some (.int .u64 a4) ∧ w'.cell? ⟨w.heap.size, 5, none⟩ = some (.int .u64 a5) ∧ w'.cell? ⟨w.heap.size, 6, none⟩ = some (.bool a6)) (ds := [9]) #[false, false, false, false, false, false, false, false, false, false] (by kernel_rfl) rfl rfl ⟨q0, q1, q2, x0, x1, x2, x3, x4, x5, x6⟩ (fun hHeld => ?_)
  refine pure_ (i := 0) (N := some 25) (v := ?_) (a' := ?_) #[true, false, false, false, false, false, false, false, false, false] rfl rfl (by kernel_rfl) (fun _ _ _ h => h) (Or.inl ⟨by rfl, ?_⟩) ?_ ?_
  rotate_left
  · intro w'
    go_simp
    with_reducible rfl
  rotate_left
  · simp only [Act.put, List.setIfInBounds_toArray, List.set_cons_zero, List.set_cons_succ, i64_w, i32_w]
    rfl
  refine pure_ (i := 1) (N := some 26) (v := ?_) (a' := ?_) #[true, true, false, false, false, false, false, false, false, false] rfl rfl (by kernel_rfl) (fun _ _ _ h => h) (Or.inl ⟨by rfl, ?_⟩) ?_ ?_
  rotate_left
  · intro w'
    go_simp
    with_reducible rfl
  rotate_left
  · simp only [Act.put, List.setIfInBounds_toArray, List.set_cons_zero, List.set_cons_succ, i64_w, i32_w]
    rfl
  refine pure_ (i := 2) (N := some 27) (v := ?_) (a' := ?_) #[true, true, true, false, false, false, false, false, false, false] rfl rfl (by kernel_rfl) (fun _ _ _ h => h) (Or.inl ⟨by rfl, ?_⟩) ?_ ?_
  rotate_left
  · intro w'
    go_simp
    with_reducible rfl
  rotate_left
  · simp only [Act.put, List.setIfInBounds_toArray, List.set_cons_zero, List.set_cons_succ, i64_w, i32_w]
    rfl
  refine pure_ (i := 3) (N := some 28) (v := ?_) (a' := ?_) #[true, true, true, true, false, false, false, false, false, false] rfl rfl (by kernel_rfl) (fun _ _ _ h => h) (Or.inl ⟨by rfl, ?_⟩) ?_ ?_
  rotate_left
  · intro w'
    go_simp
    with_reducible rfl
  rotate_left
  · simp only [Act.put, List.setIfInBounds_toArray, List.set_cons_zero, List.set_cons_succ, i64_w, i32_w]
    rfl
  refine take_ (i := 4) (N := some 29) (v := ?_) (a' := ?_) #[true, true, true, true, true, false, false, false, false, false] rfl rfl (by kernel_rfl) (fun _ _ _ h => h) (Or.inl ⟨by rfl, ?_⟩) hHeld ?_ ?_
  rotate_left
  · rintro w' ⟨s0, s1, s2, s3, s4, s5, s6, s7, s8, s9⟩
    go_simp
    with_reducible rfl
  rotate_left
  · simp only [Act.put, List.setIfInBounds_toArray, List.set_cons_zero, List.set_cons_succ, i64_w, i32_w]
    rfl
  refine pure_ (i := 5) (N := some 30) (v := ?_) (a' := ?_) #[true, true, true, true, true, true, false, false, false, false] rfl rfl (by kernel_rfl) (fun _ _ _ h => h) (Or.inl ⟨by rfl, ?_⟩) ?_ ?_
  rotate_left
  · intro w'
    go_simp
    with_reducible rfl
  rotate_left
  · simp only [Act.put, List.setIfInBounds_toArray, List.set_cons_zero, List.set_cons_succ, i64_w, i32_w]
    rfl
  refine take_ (i := 7) (N := some 32) (v := ?_) (a' := ?_) #[true, true, true, true, true, true, false, true, false, false] rfl rfl (by kernel_rfl) (fun _ _ _ h => h) (Or.inl ⟨by rfl, ?_⟩) hHeld ?_ ?_
  rotate_left
  · rintro w' ⟨s0, s1, s2, s3, s4, s5, s6, s7, s8, s9⟩
    go_simp
    with_reducible rfl
  rotate_left
  · simp only [Act.put, List.setIfInBounds_toArray, List.set_cons_zero, List.set_cons_succ, i64_w, i32_w]
    rfl
  refine one_ (i := 6) (N := some 31) #[true, true, true, true, true, true, true, true, false, false] rfl rfl (by kernel_rfl) (by decide) (fun K hK => ?_)
  refine goes_ Try.func129 (by kernel_rfl) rfl #[.pointer (some ⟨r, 0, none⟩), .int .i64 xs.length] (by rfl) rfl rfl (by simp only [List.map_toArray, List.map_cons, List.map_nil]; rfl) ?_
  with_reducible refine (place_any r pb' N' C' 0 xs.length W2.drew hlt' f1 hm hHeld.1 hHeld.2.1 s hs).mono ?_
  rintro e w3 ⟨rfl, rfl⟩
  refine ⟨_, rfl, ?_⟩
  refine hK.out _ _ ⟨q0, q1, q2, x0, x1, x2, x3, x4, x5, x6⟩ (fun hHeld => ?_)
  clear hK K
  refine norm_ (a' := ?_) ?_ ?_
  rotate_left
  · show Act.put _ (some 31) _ = _
    simp only [Act.put, List.setIfInBounds_toArray, List.set_cons_zero, List.set_cons_succ, i64_w, i32_w]
    rfl
  refine pure_ (i := 8) (N := some 33) (v := ?_) (a' := ?_) #[true, true, true, true, true, true, true, true, true, false] rfl rfl (by kernel_rfl) (fun _ _ _ h => h) (Or.inl ⟨by rfl, ?_⟩) ?_ ?_
  rotate_left
  · intro w'
    go_simp
    with_reducible rfl
  rotate_left
  · simp only [Act.put, List.setIfInBounds_toArray, List.set_cons_zero, List.set_cons_succ, i64_w, i32_w]
    rfl
  refine last_ (i := 9) (N := none) #[true, true, true, true, true, true, true, true, true, true] rfl rfl (by kernel_rfl) (by decide) (fun K hK => ?_)
  refine skip_ (w1 := ?_) (by rfl) rfl ?_ ?_
  rotate_left
  · go_simp
    rfl
  refine hK.out _ _ ?_
  clear hK K
  refine done_ (by kernel_rfl) ?_
  go_wp2
  go_end0
  rw [← hs.out] at hrb
  have hne' := hne.symm
  have e1 : ((xs.length : Int) + 1) = (((xs ++ [([.int .u64 a0, .int .u64 a1, .int .u64 a2, .int .u64 a3, .int .u64 a4, .int .u64 a5, .bool a6] : List Value)]).length : Nat) : Int) := by simp
  rw [e1] at R2
  refine ⟨rfl, ⟨pb', ⟨N', C', 0, YtjnojomfaikfjaaR.wr cells' (s * 7) [.int .u64 a0, .int .u64 a1, .int .u64 a2, .int .u64 a3, .int .u64 a4, .int .u64 a5, .bool a6], (by (repeat (first | with_reducible exact R2 | with_reducible apply Blk.drew | with_reducible apply Blk.drewN | with_reducible refine Blk.newAt (by simp; done) | with_reducible apply Blk.alloc | with_reducible apply Blk.set2 | with_reducible apply Blk.far)); (all_goals (first | rfl | assumption | (simp; done) | (simp; omega) | omega))), (by (repeat (first | with_reducible exact P2 | with_reducible apply Blk.drew | with_reducible apply Blk.drewN | with_reducible refine Blk.newAt (by simp; done) | with_reducible apply Blk.alloc | with_reducible apply Blk.set2 | with_reducible apply Blk.far)); (all_goals (first | rfl | assumption | (simp; done) | (simp; omega) | omega))), hrb, hnc, by rw [YtjnojomfaikfjaaR.wr_length]; exact hcl, f2, hm, wr_one h'.one (by simp [Value.oneCell'])⟩, by omega⟩, ?_⟩
  refine Keeps.mono (bs := [r, pb']) ?_ (by intro c hc; simp at hc; rcases hc with rfl | rfl; exact .inl (by simp); exact .inr (by omega))
  exact (by (repeat (first | with_reducible exact K2 | with_reducible apply Keeps.drew | with_reducible apply Keeps.drewN | with_reducible apply Keeps.alloc | with_reducible apply Keeps.set_)); (all_goals (first | (left; simp; done) | (right; simp; done) | (right; simp; omega) | (right; omega))))
/-- Push. -/
theorem push (r pb : Nat) (a0 a1 a2 a3 a4 a5 : Int) (a6 : Bool) (xs : List (List Value)) (w : World) (h : At w r pb xs) (hn : xs.length ≤ 1073741824) :
    Calls Try.prog 103 #[.pointer (some ⟨r, 0, none⟩), .agg #[.int .u64 a0, .int .u64 a1, .int .u64 a2, .int .u64 a3, .int .u64 a4, .int .u64 a5, .bool a6]] w fun e w' => e = .returned (.tuple #[]) ∧ (∃ pb', At w' r pb' (xs ++ [[.int .u64 a0, .int .u64 a1, .int .u64 a2, .int .u64 a3, .int .u64 a4, .int .u64 a5, .bool a6]]) ∧ (pb' = pb ∨ w.heap.size ≤ pb')) ∧ Keeps [r, pb] w w' := by
  obtain ⟨N, C, frm, cells, h⟩ := h
  rcases Nat.lt_or_ge xs.length N with hlt | hge
  · refine (push_room r pb N C frm cells a0 a1 a2 a3 a4 a5 a6 xs w h hlt).mono ?_
    rintro e w' ⟨he, ha, hk⟩
    exact ⟨he, ⟨pb, ha, .inl rfl⟩, hk⟩
  · have hle := h.rb.n_le
    refine (push_full r pb N C frm cells a0 a1 a2 a3 a4 a5 a6 xs w h (by omega) (by omega)).mono ?_
    rintro e w' ⟨he, ⟨pb', ha, hp⟩, hk⟩
    exact ⟨he, ⟨pb', ha, .inr hp⟩, hk.mono (by simp)⟩
end Pk
end Go.Proofs.Ytjnojomfaikfjaa
