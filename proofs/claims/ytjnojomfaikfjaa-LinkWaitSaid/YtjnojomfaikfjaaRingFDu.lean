/- The walks of ring.Ring[jitter.due]: grow, Push. -/
import Derived.Test.YtjnojomfaikfjaaRingEDu
import Derived.OwnWalk
import Derived.Laws.MakeOwn
namespace Go.Proofs.Ytjnojomfaikfjaa
set_option linter.unusedSimpArgs false
set_option linter.unusedVariables false
open Go.RowKit Go.Proofs.YtjnojomfaikfjaaW.PrintLast
namespace Du
theorem size_E : (Try.prog.info? 166).map (·.size) = some 8 := by kernel_rfl
theorem info_E : (Try.prog.info? 166).map (fun i => (i.zero, i.size, i.bytes)) = some (some (.agg #[.int .u64 0, .int .u64 0, .int .u64 0, .int .u64 0, .int .u64 0, .int .u64 0, .bool false, .int .u64 0]), 8, 64) := by kernel_rfl
set_option maxHeartbeats 40000000 in
set_option maxRecDepth 100000 in
theorem grow (r pb N C frm : Nat) (cells : List Value) (xs : List (List Value)) (w : World) (h : RingIs 166 198 8 w r pb N C frm cells xs) (hN : N ≤ 2147483648) :
    Calls Try.prog 142 #[.pointer (some ⟨r, 0, none⟩)] w fun e w' => e = .returned (.tuple #[]) ∧ ∃ pb' C' cells', RingIs 166 198 8 w' r pb' (2 * N) C' 0 cells' xs ∧ w.heap.size ≤ pb' ∧ Keeps [r] w w' := by
  have hr := h.ring.lt
  have hp := h.places.lt
  have hne : r ≠ pb := h.ring.ne_ h.places (by decide)
  have hcl := h.len
  have hnc := h.nc
  have f1 := h.rb.frm_lt
  have f2 := h.four
  have g0 := h.c0
  have g1 := h.c1
  have c1 := i64k (2 * (N : Int)) (by omega) (by omega)
  have c2 := i64w (2 * (N : Int)) (by omega) (by omega)
  have c3 : ((2 * N : Nat) : Int) = 2 * (N : Int) := by omega
  obtain ⟨i0, hi0, hii⟩ := Option.map_eq_some_iff.1 info_E
  simp only [Prod.mk.injEq] at hii
  obtain ⟨hi1, hi2, hi3⟩ := hii
  obtain ⟨T, hT⟩ : ∃ T, Hid (T = 2 * N) := ⟨_, rfl⟩
  obtain ⟨zs, hzl, hzo, hmk⟩ : ∃ zs : List Value, zs.length = T * 8 ∧ (∀ v ∈ zs, v.oneCell' = true) ∧ (Instr.makeSlice 175 (.int .i64 (2 * (N : Int))) (.int .i64 (2 * (N : Int)))).run Try.prog w = .ok (.slice (some ⟨w.heap.size, 0, none⟩) T T) (w.alloc (.cells zs.toArray 166)) := by
    rw [hT.out]
    refine ⟨(madeCells (Value.cells (.agg #[.int .u64 0, .int .u64 0, .int .u64 0, .int .u64 0, .int .u64 0, .int .u64 0, .bool false, .int .u64 0])) (2 * N * 8)).toList, by simp [madeCells], ?_, ?_⟩
    · exact madeCells_one (by simp [Value.cells, Value.oneCell']) _
    have hr := run_make (P := Try.prog) w 175 166 i0 _ Try.underlying175 hi0 hi1 .i64 .i64 (2 * (N : Int)) (2 * (N : Int)) (by omega) (by omega) (by rw [hi3]; omega) (by omega)
    rw [hi2, show (2 * (N : Int)).toNat = 2 * N by omega] at hr
    simpa using hr
  go_enter Try.func142, Try.ntmps142
  go_wp2_with (fail)
  have hP : Blk w pb 166 cells := h.places
  have hR : Blk w r 198 [.slice (some ⟨pb, 0, none⟩) N C, .int .i64 frm, .int .i64 xs.length] := h.ring
  have K0 : Keeps [r] w w := Keeps.refl _ _
  refine wp_at (fun W => Blk W r 198 [.slice (some ⟨pb, 0, none⟩) N C, .int .i64 frm, .int .i64 xs.length] ∧ Blk W pb 166 cells ∧ Blk W w.heap.size 166 zs ∧ Keeps [r] w W) ?_ ?_
  · exact ⟨(by (repeat (first | with_reducible exact hR | with_reducible apply Blk.drew | with_reducible apply Blk.drewN | with_reducible refine Blk.newAt (by simp; done) | with_reducible apply Blk.alloc | with_reducible apply Blk.set2 | with_reducible apply Blk.far)); (all_goals (first | rfl | assumption | (simp; done) | (simp; omega) | omega))), (by (repeat (first | with_reducible exact hP | with_reducible apply Blk.drew | with_reducible apply Blk.drewN | with_reducible refine Blk.newAt (by simp; done) | with_reducible apply Blk.alloc | with_reducible apply Blk.set2 | with_reducible apply Blk.far)); (all_goals (first | rfl | assumption | (simp; done) | (simp; omega) | omega))), (by (repeat (first | with_reducible exact hP | with_reducible apply Blk.drew | with_reducible apply Blk.drewN | with_reducible refine Blk.newAt (by simp; done) | with_reducible apply Blk.alloc | with_reducible apply Blk.set2 | with_reducible apply Blk.far)); (all_goals (first | rfl | assumption | (simp; done) | (simp; omega) | omega))), (by (repeat (first | with_reducible exact K0 | with_reducible apply Keeps.drew | with_reducible apply Keeps.drewN | with_reducible apply Keeps.alloc | with_reducible apply Keeps.set_)); (all_goals (first | (left; simp; done) | (right; simp; done) | (right; simp; omega) | (right; omega))))⟩
  rintro W1 ⟨R1, P1, B1, K1⟩
  clear hmk hP hR K0 g0 g1 c1 c2 c3
  generalize hb : w.heap.size = b at *
  have hbr : b ≠ r := by omega
  have hbp : b ≠ pb := by omega
  obtain ⟨k, rfl⟩ : ∃ k, N = frm + k := ⟨N - frm, by omega⟩
  obtain ⟨c, rfl⟩ : ∃ c, C = frm + (k + c) := ⟨C - frm - k, by omega⟩
  obtain ⟨M, rfl⟩ : ∃ M, T = k + M := ⟨T - k, by have := hT.out; omega⟩
  have hM : Hid (M = 2 * frm + k) := by have := hT.out; show _ = _; omega
  have hfM : frm ≤ M := by have := hM.out; omega
  have q0 := R1.cell 0
  have q1 := R1.cell 1
  simp only [List.getElem?_cons_zero, List.getElem?_cons_succ] at q0 q1
  -- the copies
  have hle : frm * 8 ≤ (frm + k) * 8 := Nat.mul_le_mul_right _ (by omega)
  have hlc : (frm + k) * 8 ≤ cells.length := by rw [hcl]; exact Nat.mul_le_mul_right _ hnc
  have hone := h.one
  have hk0 : ¬ k = 0 := by omega
  have hM0 : ¬ M = 0 := by have := hM.out; omega
  have hfi : (frm : Int) ≤ frm + k := by omega
  have hki : (k : Int) ≤ k + M := by omega
  have hfc : (frm : Int) ≤ frm + (k + c) := by omega
  obtain ⟨D1, eD1⟩ : ∃ D1, Hid (D1 = zs.take 0 ++ (cells.drop (frm * 8)).take (k * 8) ++ zs.drop (0 + k * 8)) := ⟨_, rfl⟩
  have lX : Hid (((cells.drop (frm * 8)).take (k * 8)).length = k * 8) := by show _ = _; rw [List.length_take, List.length_drop]; apply Nat.min_eq_left; rw [Nat.add_mul] at hlc; omega
  have hone1 : ∀ v ∈ (cells.drop (frm * 8)).take (k * 8), v.oneCell' = true := by
    intro v hv
    refine hone v ?_
    have e : (cells.take ((frm + k) * 8)).drop (frm * 8) = (cells.drop (frm * 8)).take (k * 8) := by
      rw [List.drop_take]; congr 1; rw [Nat.add_mul]; omega
    exact List.mem_of_mem_drop (e ▸ hv)
  have hone2 : ∀ v ∈ (cells.drop 0).take (frm * 8), v.oneCell' = true := by
    intro v hv
    rw [List.drop_zero] at hv
    refine hone v ?_
    have e : (cells.take ((frm + k) * 8)).take (frm * 8) = cells.take (frm * 8) := by rw [List.take_take]; congr 1; omega
    exact List.mem_of_mem_take (e ▸ hv)
  have hc1 : Sem.run Try.prog (Builtin.copy_ #[175, 175] 3 #[.slice (some ⟨b, 0, none⟩) (k + M) (k + M), .slice (some ⟨pb, frm * 8, none⟩) k (k + c)]) W1.drew = .ok (goInt k) (W1.drew.setRow b D1.toArray) :=
    copy_blk W1.drew 175 3 166 8 b 0 (k + M) (k + M) pb (frm * 8) k (k + c) k cells zs _ D1 Try.underlying175 size_E B1.drew P1.drew (Nat.min_eq_left (by omega)) rfl lX.out (by rw [hzl, Nat.add_mul]; omega) hone1 eD1.out
  refine start_ (n := 12) (S := fun w' => w'.cell? ⟨r, 0, none⟩ = some (.slice (some ⟨pb, 0, none⟩) (frm + k) (frm + (k + c))) ∧ w'.cell? ⟨r, 1, none⟩ = some (.int .i64 frm)) (ds := [10]) #[false, false, false, false, false, false, false, false, false, false, false, false] (by kernel_rfl) rfl rfl ⟨q0, q1⟩ (fun hHeld => ?_)
  refine pure_ (i := 0) (N := some 11) (v := ?_) (a' := ?_) #[true, false, false, false, false, false, false, false, false, false, false, false] rfl rfl (by kernel_rfl) (fun _ _ _ h => h) (Or.inl ⟨by rfl, ?_⟩) ?_ ?_
  rotate_left
  · intro w'
    go_simp
    with_reducible rfl
  rotate_left
  · simp only [Act.put, List.setIfInBounds_toArray, List.set_cons_zero, List.set_cons_succ, i64_w, i32_w]
    rfl
  refine pure_ (i := 1) (N := some 12) (v := ?_) (a' := ?_) #[true, true, false, false, false, false, false, false, false, false, false, false] rfl rfl (by kernel_rfl) (fun _ _ _ h => h) (Or.inl ⟨by rfl, ?_⟩) ?_ ?_
  rotate_left
  · intro w'
    go_simp
    with_reducible rfl
  rotate_left
  · simp only [Act.put, List.setIfInBounds_toArray, List.set_cons_zero, List.set_cons_succ, i64_w, i32_w]
    rfl
  refine pure_ (i := 2) (N := some 13) (v := ?_) (a' := ?_) #[true, true, true, false, false, false, false, false, false, false, false, false] rfl rfl (by kernel_rfl) (fun _ _ _ h => h) (Or.inl ⟨by rfl, ?_⟩) ?_ ?_
  rotate_left
  · intro w'
    go_simp
    with_reducible rfl
  rotate_left
  · simp only [Act.put, List.setIfInBounds_toArray, List.set_cons_zero, List.set_cons_succ, i64_w, i32_w]
    rfl
  refine pure_ (i := 3) (N := some 14) (v := ?_) (a' := ?_) #[true, true, true, true, false, false, false, false, false, false, false, false] rfl rfl (by kernel_rfl) (fun _ _ _ h => h) (Or.inl ⟨by rfl, ?_⟩) ?_ ?_
  rotate_left
  · intro w'
    go_simp
    with_reducible rfl
  rotate_left
  · simp only [Act.put, List.setIfInBounds_toArray, List.set_cons_zero, List.set_cons_succ, i64_w, i32_w]
    rfl
  refine pure_ (i := 5) (N := some 16) (v := ?_) (a' := ?_) #[true, true, true, true, false, true, false, false, false, false, false, false] rfl rfl (by kernel_rfl) (fun _ _ _ h => h) (Or.inl ⟨by rfl, ?_⟩) ?_ ?_
  rotate_left
  · intro w'
    go_simp
    with_reducible rfl
  rotate_left
  · simp only [Act.put, List.setIfInBounds_toArray, List.set_cons_zero, List.set_cons_succ, i64_w, i32_w]
    rfl
  refine pure_ (i := 6) (N := some 17) (v := ?_) (a' := ?_) #[true, true, true, true, false, true, true, false, false, false, false, false] rfl rfl (by kernel_rfl) (fun _ _ _ h => h) (Or.inl ⟨by rfl, ?_⟩) ?_ ?_
  rotate_left
  · intro w'
    go_simp
    with_reducible rfl
  rotate_left
  · simp only [Act.put, List.setIfInBounds_toArray, List.set_cons_zero, List.set_cons_succ, i64_w, i32_w]
    rfl
  refine pure_ (i := 7) (N := some 18) (v := ?_) (a' := ?_) #[true, true, true, true, false, true, true, true, false, false, false, false] rfl rfl (by kernel_rfl) (fun _ _ _ h => h) (Or.inl ⟨by rfl, ?_⟩) ?_ ?_
  rotate_left
  · intro w'
    go_simp
    with_reducible rfl
  rotate_left
  · simp only [Act.put, List.setIfInBounds_toArray, List.set_cons_zero, List.set_cons_succ, i64_w, i32_w]
    rfl
  refine take_ (i := 4) (N := some 15) (v := ?_) (a' := ?_) #[true, true, true, true, true, true, true, true, false, false, false, false] rfl rfl (by kernel_rfl) (fun _ _ _ h => h) (Or.inl ⟨by rfl, ?_⟩) hHeld ?_ ?_
  rotate_left
  · rintro w' ⟨s0, s1⟩
    go_simp
    with_reducible rfl
  rotate_left
  · simp only [Act.put, List.setIfInBounds_toArray, List.set_cons_zero, List.set_cons_succ, i64_w, i32_w]
    rfl
  refine take_ (i := 8) (N := some 19) (v := ?_) (a' := ?_) #[true, true, true, true, true, true, true, true, true, false, false, false] rfl rfl (by kernel_rfl) (fun _ _ _ h => h) (Or.inl ⟨by rfl, ?_⟩) hHeld ?_ ?_
  rotate_left
  · rintro w' ⟨s0, s1⟩
    go_simp
    with_reducible rfl
  rotate_left
  · simp only [Act.put, List.setIfInBounds_toArray, List.set_cons_zero, List.set_cons_succ, i64_w, i32_w]
    rfl
  refine pure_ (i := 9) (N := some 20) (v := ?_) (a' := ?_) #[true, true, true, true, true, true, true, true, true, true, false, false] rfl rfl (by kernel_rfl) (fun _ _ _ h => h) (Or.inl ⟨by rfl, ?_⟩) ?_ ?_
  rotate_left
  · intro w'
    go_simp
    with_reducible rfl
  rotate_left
  · simp only [Act.put, List.setIfInBounds_toArray, List.set_cons_zero, List.set_cons_succ, i64_w, i32_w]
    rfl
  refine last_ (i := 10) (N := some 21) #[true, true, true, true, true, true, true, true, true, true, true, false] rfl rfl (by kernel_rfl) (by decide) (fun K hK => ?_)
  refine value_ (w1 := ?_) (v := ?_) (by rfl) rfl ?_ ?_
  rotate_left 2
  · go_simp
    constructor
    · rfl
    · rfl
  refine hK.out _ _ ?_
  clear hK K
  refine norm_ (a' := ?_) ?_ ?_
  rotate_left
  · show Act.put _ (some 21) _ = _
    simp only [Act.put, List.setIfInBounds_toArray, List.set_cons_zero, List.set_cons_succ, i64_w, i32_w]
    rfl
  refine pure_ (i := 11) (N := some 3) (v := ?_) (a' := ?_) #[true, true, true, true, true, true, true, true, true, true, true, true] rfl rfl (by kernel_rfl) (fun _ _ _ h => h) (Or.inl ⟨by rfl, ?_⟩) ?_ ?_
  rotate_left
  · intro w'
    go_simp
    with_reducible rfl
  rotate_left
  · simp only [Act.put, List.setIfInBounds_toArray, List.set_cons_zero, List.set_cons_succ, i64_w, i32_w]
    rfl
  refine done_ (by kernel_rfl) ?_
  go_wp2_with (fail)
  refine wp_at (fun W => Blk W r 198 [.slice (some ⟨pb, 0, none⟩) (frm + k) (frm + (k + c)), .int .i64 frm, .int .i64 xs.length] ∧ Blk W pb 166 cells ∧ Blk W b 166 D1 ∧ Keeps [r] w W) ?_ ?_
  · exact ⟨(R1.drew.rowFar (Ne.symm hbr) _), (P1.drew.rowFar (Ne.symm hbp) _), B1.drew.row _, K1.drew.row (Or.inr (by omega)) _⟩
  rintro W2 ⟨R2, P2, B2, K2⟩
  clear hc1 q0 q1 R1 P1 B1 K1 hHeld
  have q0 := R2.cell 0
  have q1 := R2.cell 1
  simp only [List.getElem?_cons_zero, List.getElem?_cons_succ] at q0 q1
  obtain ⟨D2, eD2⟩ : ∃ D2, Hid (D2 = D1.take (k * 8) ++ (cells.drop 0).take (frm * 8) ++ D1.drop (k * 8 + frm * 8)) := ⟨_, rfl⟩
  have lD1 : Hid (D1.length = (k + M) * 8) := by
    show _ = _
    rw [eD1.out, List.length_append, List.length_append, lX.out, List.length_drop, hzl, Nat.add_mul]; simp
  have hc2 : Sem.run Try.prog (Builtin.copy_ #[175, 175] 3 #[.slice (some ⟨b, k * 8, none⟩) M M, .slice (some ⟨pb, 0, none⟩) frm (frm + (k + c))]) W2.drew = .ok (goInt frm) (W2.drew.setRow b D2.toArray) :=
    copy_blk W2.drew 175 3 166 8 b (k * 8) M M pb 0 frm (frm + (k + c)) frm cells D1 _ D2 Try.underlying175 size_E B2.drew P2.drew (Nat.min_eq_left hfM) rfl (by rw [List.length_take, List.drop_zero]; apply Nat.min_eq_left; omega) (by rw [lD1.out, Nat.add_mul]; have := Nat.mul_le_mul_right 8 hfM; omega) hone2 eD2.out
  refine start_ (n := 13) (S := fun w' => w'.cell? ⟨r, 0, none⟩ = some (.slice (some ⟨pb, 0, none⟩) (frm + k) (frm + (k + c))) ∧ w'.cell? ⟨r, 1, none⟩ = some (.int .i64 frm)) (ds := [12]) #[false, false, false, false, false, false, false, false, false, false, false, false, false] (by kernel_rfl) rfl rfl ⟨q0, q1⟩ (fun hHeld => ?_)
  refine pure_ (i := 0) (N := some 22) (v := ?_) (a' := ?_) #[true, false, false, false, false, false, false, false, false, false, false, false, false] rfl rfl (by kernel_rfl) (fun _ _ _ h => h) (Or.inl ⟨by rfl, ?_⟩) ?_ ?_
  rotate_left
  · intro w'
    go_simp
    with_reducible rfl
  rotate_left
  · simp only [Act.put, List.setIfInBounds_toArray, List.set_cons_zero, List.set_cons_succ, i64_w, i32_w]
    rfl
  refine pure_ (i := 1) (N := some 23) (v := ?_) (a' := ?_) #[true, true, false, false, false, false, false, false, false, false, false, false, false] rfl rfl (by kernel_rfl) (fun _ _ _ h => h) (Or.inl ⟨by rfl, ?_⟩) ?_ ?_
  rotate_left
  · intro w'
    go_simp
    with_reducible rfl
  rotate_left
  · simp only [Act.put, List.setIfInBounds_toArray, List.set_cons_zero, List.set_cons_succ, i64_w, i32_w]
    rfl
  refine pure_ (i := 2) (N := some 24) (v := ?_) (a' := ?_) #[true, true, true, false, false, false, false, false, false, false, false, false, false] rfl rfl (by kernel_rfl) (fun _ _ _ h => h) (Or.inl ⟨by rfl, ?_⟩) ?_ ?_
  rotate_left
  · intro w'
    go_simp
    with_reducible rfl
  rotate_left
  · simp only [Act.put, List.setIfInBounds_toArray, List.set_cons_zero, List.set_cons_succ, i64_w, i32_w]
    rfl
  refine pure_ (i := 3) (N := some 25) (v := ?_) (a' := ?_) #[true, true, true, true, false, false, false, false, false, false, false, false, false] rfl rfl (by kernel_rfl) (fun _ _ _ h => h) (Or.inl ⟨by rfl, ?_⟩) ?_ ?_
  rotate_left
  · intro w'
    go_simp
    with_reducible rfl
  rotate_left
  · simp only [Act.put, List.setIfInBounds_toArray, List.set_cons_zero, List.set_cons_succ, i64_w, i32_w]
    rfl
  refine pure_ (i := 4) (N := some 26) (v := ?_) (a' := ?_) #[true, true, true, true, true, false, false, false, false, false, false, false, false] rfl rfl (by kernel_rfl) (fun _ _ _ h => h) (Or.inl ⟨by rfl, ?_⟩) ?_ ?_
  rotate_left
  · intro w'
    go_simp
    with_reducible rfl
  rotate_left
  · simp only [Act.put, List.setIfInBounds_toArray, List.set_cons_zero, List.set_cons_succ, i64_w, i32_w]
    rfl
  refine pure_ (i := 5) (N := some 27) (v := ?_) (a' := ?_) #[true, true, true, true, true, true, false, false, false, false, false, false, false] rfl rfl (by kernel_rfl) (fun _ _ _ h => h) (Or.inl ⟨by rfl, ?_⟩) ?_ ?_
  rotate_left
  · intro w'
    go_simp
    with_reducible rfl
  rotate_left
  · simp only [Act.put, List.setIfInBounds_toArray, List.set_cons_zero, List.set_cons_succ, i64_w, i32_w]
    rfl
  refine pure_ (i := 7) (N := some 29) (v := ?_) (a' := ?_) #[true, true, true, true, true, true, false, true, false, false, false, false, false] rfl rfl (by kernel_rfl) (fun _ _ _ h => h) (Or.inl ⟨by rfl, ?_⟩) ?_ ?_
  rotate_left
  · intro w'
    go_simp
    with_reducible rfl
  rotate_left
  · simp only [Act.put, List.setIfInBounds_toArray, List.set_cons_zero, List.set_cons_succ, i64_w, i32_w]
    rfl
  refine pure_ (i := 8) (N := some 30) (v := ?_) (a' := ?_) #[true, true, true, true, true, true, false, true, true, false, false, false, false] rfl rfl (by kernel_rfl) (fun _ _ _ h => h) (Or.inl ⟨by rfl, ?_⟩) ?_ ?_
  rotate_left
  · intro w'
    go_simp
    with_reducible rfl
  rotate_left
  · simp only [Act.put, List.setIfInBounds_toArray, List.set_cons_zero, List.set_cons_succ, i64_w, i32_w]
    rfl
  refine pure_ (i := 9) (N := some 31) (v := ?_) (a' := ?_) #[true, true, true, true, true, true, false, true, true, true, false, false, false] rfl rfl (by kernel_rfl) (fun _ _ _ h => h) (Or.inl ⟨by rfl, ?_⟩) ?_ ?_
  rotate_left
  · intro w'
    go_simp
    with_reducible rfl
  rotate_left
  · simp only [Act.put, List.setIfInBounds_toArray, List.set_cons_zero, List.set_cons_succ, i64_w, i32_w]
    rfl
  refine take_ (i := 6) (N := some 28) (v := ?_) (a' := ?_) #[true, true, true, true, true, true, true, true, true, true, false, false, false] rfl rfl (by kernel_rfl) (fun _ _ _ h => h) (Or.inl ⟨by rfl, ?_⟩) hHeld ?_ ?_
  rotate_left
  · rintro w' ⟨s0, s1⟩
    go_simp
    with_reducible rfl
  rotate_left
  · simp only [Act.put, List.setIfInBounds_toArray, List.set_cons_zero, List.set_cons_succ, i64_w, i32_w]
    rfl
  refine take_ (i := 10) (N := some 32) (v := ?_) (a' := ?_) #[true, true, true, true, true, true, true, true, true, true, true, false, false] rfl rfl (by kernel_rfl) (fun _ _ _ h => h) (Or.inl ⟨by rfl, ?_⟩) hHeld ?_ ?_
  rotate_left
  · rintro w' ⟨s0, s1⟩
    go_simp
    with_reducible rfl
  rotate_left
  · simp only [Act.put, List.setIfInBounds_toArray, List.set_cons_zero, List.set_cons_succ, i64_w, i32_w]
    rfl
  refine pure_ (i := 11) (N := some 33) (v := ?_) (a' := ?_) #[true, true, true, true, true, true, true, true, true, true, true, true, false] rfl rfl (by kernel_rfl) (fun _ _ _ h => h) (Or.inl ⟨by rfl, ?_⟩) ?_ ?_
  rotate_left
  · intro w'
    go_simp
    with_reducible rfl
  rotate_left
  · simp only [Act.put, List.setIfInBounds_toArray, List.set_cons_zero, List.set_cons_succ, i64_w, i32_w]
    rfl
  refine last_ (i := 12) (N := some 34) #[true, true, true, true, true, true, true, true, true, true, true, true, true] rfl rfl (by kernel_rfl) (by decide) (fun K hK => ?_)
  refine value_ (w1 := ?_) (v := ?_) (by rfl) rfl ?_ ?_
  rotate_left 2
  · go_simp
    constructor
    · rfl
    · rfl
  refine hK.out _ _ ?_
  clear hK K
  refine norm_ (a' := ?_) ?_ ?_
  rotate_left
  · show Act.put _ (some 34) _ = _
    simp only [Act.put, List.setIfInBounds_toArray, List.set_cons_zero, List.set_cons_succ, i64_w, i32_w]
    rfl
  refine done_ (by kernel_rfl) ?_
  refine exit_at (fun W => Blk W r 198 [.slice (some ⟨pb, 0, none⟩) (frm + k) (frm + (k + c)), .int .i64 frm, .int .i64 xs.length] ∧ Blk W b 166 D2 ∧ Keeps [r] w W) ?_ ?_
  · exact ⟨(R2.drew.rowFar (Ne.symm hbr) _), B2.drew.row _, K2.drew.row (Or.inr (by omega)) _⟩
  rintro W3 ⟨R3, B3, K3⟩
  clear hc2 q0 q1 R2 P2 B2 K2 hHeld
  have q0 := R3.cell 0
  have q1 := R3.cell 1
  have p0 := R3.frozen 0
  have p1 := R3.frozen 1
  simp only [List.getElem?_cons_zero, List.getElem?_cons_succ] at q0 q1
  go_wp2
  go_end0
  have eT : k + M = 2 * (frm + k) := hT.out
  have hG : D2 = YtjnojomfaikfjaaR.grown cells frm 8 (frm + k) (zs.drop ((frm + k) * 8)) := by
    have e0 : D1.take (k * 8) = (cells.drop (frm * 8)).take (k * 8) := by
      rw [eD1.out, List.take_zero, List.nil_append]
      exact List.take_left' lX.out
    have e1 : D1.drop (k * 8 + frm * 8) = zs.drop ((frm + k) * 8) := by
      rw [eD1.out, List.take_zero, List.nil_append, ← List.drop_drop, List.drop_left' lX.out, List.drop_drop]
      congr 1
      rw [Nat.add_mul]; omega
    rw [eD2.out, e0, e1, List.drop_zero]
    unfold YtjnojomfaikfjaaR.grown
    congr 2
    rw [List.drop_take]
    congr 1
    rw [Nat.add_mul]; omega
  have hlz : (zs.drop ((frm + k) * 8)).length = (frm + k) * 8 := by rw [List.length_drop, hzl, eT, Nat.mul_assoc, Nat.two_mul]; omega
  have hrb := h.rb.grow (zs.drop ((frm + k) * 8)) hlz
  rw [← hG] at hrb
  have hl2 : D2.length = (k + M) * 8 := by
    rw [hG]
    unfold YtjnojomfaikfjaaR.grown
    rw [List.length_append, List.length_append, hlz, List.length_drop, List.length_take, List.length_take, Nat.min_eq_left hlc, Nat.min_eq_left (by omega), eT, Nat.mul_assoc, Nat.two_mul]
    omega
  have hD1 : ∀ v ∈ D2, v.oneCell' = true := by
    intro v hv
    rw [hG] at hv
    unfold YtjnojomfaikfjaaR.grown at hv
    simp only [List.mem_append] at hv
    rcases hv with (hv | hv) | hv
    · exact hone v (List.mem_of_mem_drop hv)
    · exact hone2 v (by rw [List.drop_zero]; exact hv)
    · exact hzo v (List.mem_of_mem_drop hv)
  have hbr' := Ne.symm hbr
  rw [← eT] at hrb
  rw [← eT]
  exact ⟨rfl, b, k + M, D2, ⟨(by (repeat (first | with_reducible exact R3 | with_reducible apply Blk.drew | with_reducible apply Blk.drewN | with_reducible refine Blk.newAt (by simp; done) | with_reducible apply Blk.alloc | with_reducible apply Blk.set2 | with_reducible apply Blk.far)); (all_goals (first | rfl | assumption | (simp; done) | (simp; omega) | omega))), (by (repeat (first | with_reducible exact B3 | with_reducible apply Blk.drew | with_reducible apply Blk.drewN | with_reducible refine Blk.newAt (by simp; done) | with_reducible apply Blk.alloc | with_reducible apply Blk.set2 | with_reducible apply Blk.far)); (all_goals (first | rfl | assumption | (simp; done) | (simp; omega) | omega))), hrb, by omega, hl2, by omega, by omega, fun v hv => hD1 v (List.mem_of_mem_take hv)⟩, by omega, (by (repeat (first | with_reducible exact K3 | with_reducible apply Keeps.drew | with_reducible apply Keeps.drewN | with_reducible apply Keeps.alloc | with_reducible apply Keeps.set_)); (all_goals (first | (left; simp; done) | (right; simp; done) | (right; simp; omega) | (right; omega))))⟩
end Du
end Go.Proofs.Ytjnojomfaikfjaa
