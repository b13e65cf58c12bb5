/- The walks of ring.Ring[filt.reading]: Push where there is a place. -/
import Derived.Test.YtaceikdmepeoiaaRingDRd
import Derived.Test.YtaceikdmepeoiaaCopy
namespace Go.Proofs.Ytaceikdmepeoiaa
set_option linter.unusedSimpArgs false
set_option linter.unusedVariables false
open Go.RowKit Go.Proofs.YtaceikdmepeoiaaW.PrintLast
namespace Rd
set_option maxHeartbeats 2000000 in
set_option maxRecDepth 100000 in
theorem push_room (r pb N C frm : Nat) (cells : List Value) (a0 a1 : Int) (xs : List (List Value)) (w : World) (h : RingIs 151 230 2 w r pb N C frm cells xs) (hlt : xs.length < N) :
    Calls Try.prog 85 #[.pointer (some ⟨r, 0, none⟩), .agg #[.int .u64 a0, .int .u64 a1]] w fun e w' => e = .returned (.tuple #[]) ∧ At w' r pb (xs ++ [[.int .u64 a0, .int .u64 a1]]) ∧ Keeps [r, pb] w w' := by
  have hr := h.ring.lt
  have hp := h.places.lt
  have hne : r ≠ pb := h.ring.ne_ h.places (by decide)
  have hm := h.most
  have hrb := h.rb.push [.int .u64 a0, .int .u64 a1] rfl hlt
  have hcl := h.len
  have hnc := h.nc
  have f1 := h.rb.frm_lt
  have f2 := h.four
  have h1 := h.keeps ((Keeps.refl [] w).alloc (.cells #[.int .u64 a0, .int .u64 a1] 151)) (by simp) (by simp)
  have b3 := Blk.new w 151 [.int .u64 a0, .int .u64 a1]
  have g0 := h1.c0
  have g1 := h1.c1
  have g2 := h1.c2
  have k2 := h1.ring.frozen 2
  have t0 : ((xs.length : Int) == (N : Int)) = false := by rw [beq_eq_false_iff_ne]; omega
  have c1 := i64k ((xs.length : Int) + 1) (by omega) (by omega)
  have c2 := i64w ((xs.length : Int) + 1) (by omega) (by omega)
  have c3 := i64k (xs.length : Int) (by omega) (by omega)
  have c4 : ((xs.length : Int) + 1 - 1) = (xs.length : Int) := by omega
  have c5 := i64w (xs.length : Int) (by omega) (by omega)
  obtain ⟨s, hs⟩ : ∃ s, Hid (s = YtaceikdmepeoiaaR.slot frm N xs.length) := ⟨_, rfl⟩
  have y0 : ∃ u0, w.cell? ⟨pb, s * 2 + 0, none⟩ = some u0 := by
    rw [h.places.cell]
    have : s * 2 + 0 < cells.length := by have e1 := YtaceikdmepeoiaaR.slot_lt (i := xs.length) f1; rw [← hs.out] at e1; rw [hcl]; have := YtaceikdmepeoiaaR.mul_le e1 2 (Nat.le_refl _); have := Nat.mul_le_mul_right 2 hnc; omega
    exact ⟨_, List.getElem?_eq_getElem this⟩
  obtain ⟨u0, y0⟩ := y0
  have z0 := h.places.frozen (s * 2 + 0)
  have y1 : ∃ u1, w.cell? ⟨pb, s * 2 + 1, none⟩ = some u1 := by
    rw [h.places.cell]
    have : s * 2 + 1 < cells.length := by have e1 := YtaceikdmepeoiaaR.slot_lt (i := xs.length) f1; rw [← hs.out] at e1; rw [hcl]; have := YtaceikdmepeoiaaR.mul_le e1 2 (Nat.le_refl _); have := Nat.mul_le_mul_right 2 hnc; omega
    exact ⟨_, List.getElem?_eq_getElem this⟩
  obtain ⟨u1, y1⟩ := y1
  have z1 := h.places.frozen (s * 2 + 1)
  simp only [Nat.add_zero] at y0 z0
  go_enter Try.func85, Try.ntmps85
  go_wp2_with (fail)
  refine start_ (n := 10) (S := fun w' => w'.cell? ⟨r, 0, none⟩ = some (.slice (some ⟨pb, 0, none⟩) N C) ∧ w'.cell? ⟨r, 2, none⟩ = some (.int .i64 xs.length)) (ds := []) #[false, false, false, false, false, false, false, false, false, false] (by kernel_rfl) rfl rfl ⟨g0, g2⟩ (fun hHeld => ?_)
  refine pure_ (i := 0) (N := some 6) (v := ?_) (a' := ?_) #[true, false, false, false, false, false, false, false, false, false] rfl rfl (by kernel_rfl) (fun _ _ _ h => h) (Or.inl ⟨by rfl, ?_⟩) ?_ ?_
  rotate_left
  · intro w'
    go_simp
    with_reducible rfl
  rotate_left
  · simp only [Act.put, List.setIfInBounds_toArray, List.set_cons_zero, List.set_cons_succ, i64_w, i32_w]
    rfl
  refine pure_ (i := 1) (N := some 7) (v := ?_) (a' := ?_) #[true, true, false, false, false, false, false, false, false, false] rfl rfl (by kernel_rfl) (fun _ _ _ h => h) (Or.inl ⟨by rfl, ?_⟩) ?_ ?_
  rotate_left
  · intro w'
    go_simp
    with_reducible rfl
  rotate_left
  · simp only [Act.put, List.setIfInBounds_toArray, List.set_cons_zero, List.set_cons_succ, i64_w, i32_w]
    rfl
  refine pure_ (i := 2) (N := some 8) (v := ?_) (a' := ?_) #[true, true, true, false, false, false, false, false, false, false] rfl rfl (by kernel_rfl) (fun _ _ _ h => h) (Or.inl ⟨by rfl, ?_⟩) ?_ ?_
  rotate_left
  · intro w'
    go_simp
    with_reducible rfl
  rotate_left
  · simp only [Act.put, List.setIfInBounds_toArray, List.set_cons_zero, List.set_cons_succ, i64_w, i32_w]
    rfl
  refine pure_ (i := 4) (N := some 10) (v := ?_) (a' := ?_) #[true, true, true, false, true, false, false, false, false, false] rfl rfl (by kernel_rfl) (fun _ _ _ h => h) (Or.inl ⟨by rfl, ?_⟩) ?_ ?_
  rotate_left
  · intro w'
    go_simp
    with_reducible rfl
  rotate_left
  · simp only [Act.put, List.setIfInBounds_toArray, List.set_cons_zero, List.set_cons_succ, i64_w, i32_w]
    rfl
  refine pure_ (i := 5) (N := some 11) (v := ?_) (a' := ?_) #[true, true, true, false, true, true, false, false, false, false] rfl rfl (by kernel_rfl) (fun _ _ _ h => h) (Or.inl ⟨by rfl, ?_⟩) ?_ ?_
  rotate_left
  · intro w'
    go_simp
    with_reducible rfl
  rotate_left
  · simp only [Act.put, List.setIfInBounds_toArray, List.set_cons_zero, List.set_cons_succ, i64_w, i32_w]
    rfl
  refine pure_ (i := 6) (N := some 12) (v := ?_) (a' := ?_) #[true, true, true, false, true, true, true, false, false, false] rfl rfl (by kernel_rfl) (fun _ _ _ h => h) (Or.inl ⟨by rfl, ?_⟩) ?_ ?_
  rotate_left
  · intro w'
    go_simp
    with_reducible rfl
  rotate_left
  · simp only [Act.put, List.setIfInBounds_toArray, List.set_cons_zero, List.set_cons_succ, i64_w, i32_w]
    rfl
  refine take_ (i := 3) (N := some 9) (v := ?_) (a' := ?_) #[true, true, true, true, true, true, true, false, false, false] rfl rfl (by kernel_rfl) (fun _ _ _ h => h) (Or.inl ⟨by rfl, ?_⟩) hHeld ?_ ?_
  rotate_left
  · rintro w' ⟨s0, s1⟩
    go_simp
    with_reducible rfl
  rotate_left
  · simp only [Act.put, List.setIfInBounds_toArray, List.set_cons_zero, List.set_cons_succ, i64_w, i32_w]
    rfl
  refine take_ (i := 7) (N := some 13) (v := ?_) (a' := ?_) #[true, true, true, true, true, true, true, true, false, false] rfl rfl (by kernel_rfl) (fun _ _ _ h => h) (Or.inl ⟨by rfl, ?_⟩) hHeld ?_ ?_
  rotate_left
  · rintro w' ⟨s0, s1⟩
    go_simp
    with_reducible rfl
  rotate_left
  · simp only [Act.put, List.setIfInBounds_toArray, List.set_cons_zero, List.set_cons_succ, i64_w, i32_w]
    rfl
  refine pure_ (i := 8) (N := some 14) (v := ?_) (a' := ?_) #[true, true, true, true, true, true, true, true, true, false] rfl rfl (by kernel_rfl) (fun _ _ _ h => h) (Or.inl ⟨by rfl, ?_⟩) ?_ ?_
  rotate_left
  · intro w'
    go_simp
    with_reducible rfl
  rotate_left
  · simp only [Act.put, List.setIfInBounds_toArray, List.set_cons_zero, List.set_cons_succ, i64_w, i32_w]
    rfl
  refine pure_ (i := 9) (N := some 15) (v := ?_) (a' := ?_) #[true, true, true, true, true, true, true, true, true, true] rfl rfl (by kernel_rfl) (fun _ _ _ h => h) (Or.inl ⟨by rfl, ?_⟩) ?_ ?_
  rotate_left
  · intro w'
    go_simp
    with_reducible rfl
  rotate_left
  · simp only [Act.put, List.setIfInBounds_toArray, List.set_cons_zero, List.set_cons_succ, i64_w, i32_w]
    rfl
  refine done_ (by kernel_rfl) ?_
  go_wp2_with (fail)
  have hR : Blk w r 230 [.slice (some ⟨pb, 0, none⟩) N C, .int .i64 frm, .int .i64 xs.length] := h.ring
  have P : Blk w pb 151 cells := h.places
  have K0 : Keeps [r, pb] w w := Keeps.refl _ _
  refine wp_at (fun W => Blk W r 230 [.slice (some ⟨pb, 0, none⟩) N C, .int .i64 frm, .int .i64 ((xs.length : Int) + 1)] ∧ Blk W pb 151 cells ∧ Blk W w.heap.size 151 [.int .u64 a0, .int .u64 a1] ∧ Keeps [r, pb] w W) ?_ ?_
  · exact ⟨(by (repeat (first | with_reducible exact hR | with_reducible apply Blk.drew | with_reducible apply Blk.drewN | with_reducible refine Blk.newAt (by simp; done) | with_reducible apply Blk.alloc | with_reducible apply Blk.set2 | with_reducible apply Blk.far)); (all_goals (first | rfl | assumption | (simp; done) | (simp; omega) | omega))), (by (repeat (first | with_reducible exact P | with_reducible apply Blk.drew | with_reducible apply Blk.drewN | with_reducible refine Blk.newAt (by simp; done) | with_reducible apply Blk.alloc | with_reducible apply Blk.set2 | with_reducible apply Blk.far)); (all_goals (first | rfl | assumption | (simp; done) | (simp; omega) | omega))), (by (repeat (first | with_reducible exact b3 | with_reducible apply Blk.drew | with_reducible apply Blk.drewN | with_reducible refine Blk.newAt (by simp; done) | with_reducible apply Blk.alloc | with_reducible apply Blk.set2 | with_reducible apply Blk.far)); (all_goals (first | rfl | assumption | (simp; done) | (simp; omega) | omega))), (by repeat (first | with_reducible exact K0 | refine Keeps.drew ?_ | refine Keeps.drewN ?_ _ | refine Keeps.alloc ?_ _ | refine Keeps.set_ ?_ (by first | (left; simp; done) | (right; simp; done) | (right; simp; omega) | (right; omega)) _))⟩
  rintro W2 ⟨R2, P2, T3, K2⟩
  clear hHeld g0 g1 g2 k2 b3 P K0 h1 hR
  have y0 : W2.cell? ⟨pb, s * 2 + 0, none⟩ = some u0 := (P2.cell _).trans ((h.places.cell (s * 2 + 0)).symm.trans y0)
  have y1 : W2.cell? ⟨pb, s * 2 + 1, none⟩ = some u1 := (P2.cell _).trans ((h.places.cell (s * 2 + 1)).symm.trans y1)
  have q0 := R2.cell 0
  have q1 := R2.cell 1
  have q2 := R2.cell 2
  have x0 := T3.cell 0
  have x1 := T3.cell 1
  simp only [Nat.add_zero, List.getElem?_cons_zero, List.getElem?_cons_succ] at y0 q0 q1 q2 x0 x1
  have z0 := P2.frozen (s * 2 + 0)
  have z1 := P2.frozen (s * 2 + 1)
  simp only [Nat.add_zero] at z0
  refine start_ (n := 10) (S := fun w' => w'.cell? ⟨r, 0, none⟩ = some (.slice (some ⟨pb, 0, none⟩) N C) ∧ w'.cell? ⟨r, 1, none⟩ = some (.int .i64 frm) ∧ w'.cell? ⟨r, 2, none⟩ = some (.int .i64 ((xs.length : Int) + 1)) ∧ w'.cell? ⟨w.heap.size, 0, none⟩ = some (.int .u64 a0) ∧ w'.cell? ⟨w.heap.size, 1, none⟩ = some (.int .u64 a1)) (ds := [9]) #[false, false, false, false, false, false, false, false, false, false] (by kernel_rfl) rfl rfl ⟨q0, q1, q2, x0, x1⟩ (fun hHeld => ?_)
  refine pure_ (i := 0) (N := some 25) (v := ?_) (a' := ?_) #[true, false, false, false, false, false, false, false, false, false] rfl rfl (by kernel_rfl) (fun _ _ _ h => h) (Or.inl ⟨by rfl, ?_⟩) ?_ ?_
  rotate_left
  · intro w'
    go_simp
    with_reducible rfl
  rotate_left
  · simp only [Act.put, List.setIfInBounds_toArray, List.set_cons_zero, List.set_cons_succ, i64_w, i32_w]
    rfl
  refine pure_ (i := 1) (N := some 26) (v := ?_) (a' := ?_) #[true, true, false, false, false, false, false, false, false, false] rfl rfl (by kernel_rfl) (fun _ _ _ h => h) (Or.inl ⟨by rfl, ?_⟩) ?_ ?_
  rotate_left
  · intro w'
    go_simp
    with_reducible rfl
  rotate_left
  · simp only [Act.put, List.setIfInBounds_toArray, List.set_cons_zero, List.set_cons_succ, i64_w, i32_w]
    rfl
  refine pure_ (i := 2) (N := some 27) (v := ?_) (a' := ?_) #[true, true, true, false, false, false, false, false, false, false] rfl rfl (by kernel_rfl) (fun _ _ _ h => h) (Or.inl ⟨by rfl, ?_⟩) ?_ ?_
  rotate_left
  · intro w'
    go_simp
    with_reducible rfl
  rotate_left
  · simp only [Act.put, List.setIfInBounds_toArray, List.set_cons_zero, List.set_cons_succ, i64_w, i32_w]
    rfl
  refine pure_ (i := 3) (N := some 28) (v := ?_) (a' := ?_) #[true, true, true, true, false, false, false, false, false, false] rfl rfl (by kernel_rfl) (fun _ _ _ h => h) (Or.inl ⟨by rfl, ?_⟩) ?_ ?_
  rotate_left
  · intro w'
    go_simp
    with_reducible rfl
  rotate_left
  · simp only [Act.put, List.setIfInBounds_toArray, List.set_cons_zero, List.set_cons_succ, i64_w, i32_w]
    rfl
  refine take_ (i := 4) (N := some 29) (v := ?_) (a' := ?_) #[true, true, true, true, true, false, false, false, false, false] rfl rfl (by kernel_rfl) (fun _ _ _ h => h) (Or.inl ⟨by rfl, ?_⟩) hHeld ?_ ?_
  rotate_left
  · rintro w' ⟨s0, s1, s2, s3, s4⟩
    go_simp
    with_reducible rfl
  rotate_left
  · simp only [Act.put, List.setIfInBounds_toArray, List.set_cons_zero, List.set_cons_succ, i64_w, i32_w]
    rfl
  refine pure_ (i := 5) (N := some 30) (v := ?_) (a' := ?_) #[true, true, true, true, true, true, false, false, false, false] rfl rfl (by kernel_rfl) (fun _ _ _ h => h) (Or.inl ⟨by rfl, ?_⟩) ?_ ?_
  rotate_left
  · intro w'
    go_simp
    with_reducible rfl
  rotate_left
  · simp only [Act.put, List.setIfInBounds_toArray, List.set_cons_zero, List.set_cons_succ, i64_w, i32_w]
    rfl
  refine take_ (i := 7) (N := some 32) (v := ?_) (a' := ?_) #[true, true, true, true, true, true, false, true, false, false] rfl rfl (by kernel_rfl) (fun _ _ _ h => h) (Or.inl ⟨by rfl, ?_⟩) hHeld ?_ ?_
  rotate_left
  · rintro w' ⟨s0, s1, s2, s3, s4⟩
    go_simp
    with_reducible rfl
  rotate_left
  · simp only [Act.put, List.setIfInBounds_toArray, List.set_cons_zero, List.set_cons_succ, i64_w, i32_w]
    rfl
  refine one_ (i := 6) (N := some 31) #[true, true, true, true, true, true, true, true, false, false] rfl rfl (by kernel_rfl) (by decide) (fun K hK => ?_)
  refine goes_ Try.func154 (by kernel_rfl) rfl #[.pointer (some ⟨r, 0, none⟩), .int .i64 xs.length] (by rfl) rfl rfl (by simp only [List.map_toArray, List.map_cons, List.map_nil]; rfl) ?_
  with_reducible refine (place_any r pb N C frm xs.length W2.drew hlt f1 hm hHeld.1 hHeld.2.1 s hs).mono ?_
  rintro e w3 ⟨rfl, rfl⟩
  refine ⟨_, rfl, ?_⟩
  refine hK.out _ _ ⟨q0, q1, q2, x0, x1⟩ (fun hHeld => ?_)
  clear hK K
  refine norm_ (a' := ?_) ?_ ?_
  rotate_left
  · show Act.put _ (some 31) _ = _
    simp only [Act.put, List.setIfInBounds_toArray, List.set_cons_zero, List.set_cons_succ, i64_w, i32_w]
    rfl
  refine pure_ (i := 8) (N := some 33) (v := ?_) (a' := ?_) #[true, true, true, true, true, true, true, true, true, false] rfl rfl (by kernel_rfl) (fun _ _ _ h => h) (Or.inl ⟨by rfl, ?_⟩) ?_ ?_
  rotate_left
  · intro w'
    go_simp
    with_reducible rfl
  rotate_left
  · simp only [Act.put, List.setIfInBounds_toArray, List.set_cons_zero, List.set_cons_succ, i64_w, i32_w]
    rfl
  refine last_ (i := 9) (N := none) #[true, true, true, true, true, true, true, true, true, true] rfl rfl (by kernel_rfl) (by decide) (fun K hK => ?_)
  refine skip_ (w1 := ?_) (by rfl) rfl ?_ ?_
  rotate_left
  · go_simp
    rfl
  refine hK.out _ _ ?_
  clear hK K
  refine done_ (by kernel_rfl) ?_
  go_wp2
  go_end0
  rw [← hs.out] at hrb
  have hne' := hne.symm
  have e1 : ((xs.length : Int) + 1) = (((xs ++ [([.int .u64 a0, .int .u64 a1] : List Value)]).length : Nat) : Int) := by simp
  rw [e1] at R2
  exact ⟨rfl, ⟨N, C, frm, YtaceikdmepeoiaaR.wr cells (s * 2) [.int .u64 a0, .int .u64 a1], (by (repeat (first | with_reducible exact R2 | with_reducible apply Blk.drew | with_reducible apply Blk.drewN | with_reducible refine Blk.newAt (by simp; done) | with_reducible apply Blk.alloc | with_reducible apply Blk.set2 | with_reducible apply Blk.far)); (all_goals (first | rfl | assumption | (simp; done) | (simp; omega) | omega))), (by (repeat (first | with_reducible exact P2 | with_reducible apply Blk.drew | with_reducible apply Blk.drewN | with_reducible refine Blk.newAt (by simp; done) | with_reducible apply Blk.alloc | with_reducible apply Blk.set2 | with_reducible apply Blk.far)); (all_goals (first | rfl | assumption | (simp; done) | (simp; omega) | omega))), hrb, hnc, by rw [YtaceikdmepeoiaaR.wr_length]; exact hcl, f2, hm, wr_one h.one (by simp [Value.oneCell'])⟩, (by repeat (first | with_reducible exact K2 | refine Keeps.drew ?_ | refine Keeps.drewN ?_ _ | refine Keeps.alloc ?_ _ | refine Keeps.set_ ?_ (by first | (left; simp; done) | (right; simp; done) | (right; simp; omega) | (right; omega)) _))⟩
end Rd
end Go.Proofs.Ytaceikdmepeoiaa
