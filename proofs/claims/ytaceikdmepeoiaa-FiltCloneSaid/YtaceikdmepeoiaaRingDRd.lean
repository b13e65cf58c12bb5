/- The walks of ring.Ring[filt.reading]: Pop, Push where there is a place. -/
import Derived.Test.YtaceikdmepeoiaaRingCRd
namespace Go.Proofs.Ytaceikdmepeoiaa
set_option linter.unusedSimpArgs false
set_option linter.unusedVariables false
open Go.RowKit Go.Proofs.YtaceikdmepeoiaaW.PrintLast
namespace Rd
set_option maxHeartbeats 2000000 in
set_option maxRecDepth 100000 in
theorem pop_yes (r pb : Nat) (a0 a1 : Int) (xs : List (List Value)) (w : World) (h : At w r pb (xs ++ [[.int .u64 a0, .int .u64 a1]])) :
    Calls Try.prog 84 #[.pointer (some ⟨r, 0, none⟩)] w fun e w' => e = .returned (.tuple #[.agg #[.int .u64 a0, .int .u64 a1], .bool true]) ∧ At w' r pb xs ∧ Keeps [r, pb] w w' := by
  have hA := h.keeps ((Keeps.refl [] w).alloc (.cells #[.int .u64 0, .int .u64 0] 151)) (by simp) (by simp)
  have hat := at_yes r pb a0 a1 xs.length _ (w.alloc (.cells #[.int .u64 0, .int .u64 0] 151)) hA (by simp)
  have hlen := len_any r _ _ hA.c2
  simp only [List.length_append, List.length_cons, List.length_nil, Nat.zero_add] at hlen
  obtain ⟨N, C, frm, cells, h⟩ := h
  have hr := h.ring.lt
  have hp := h.places.lt
  have hne : r ≠ pb := h.ring.ne_ h.places (by decide)
  have hm := h.most
  have hrb := h.rb.pop [.int .u64 0, .int .u64 0] rfl
  have hn := h.rb.n_le
  have hcl := h.len
  have hnc := h.nc
  have f1 := h.rb.frm_lt
  have f2 := h.four
  simp only [List.length_append, List.length_cons, List.length_nil, Nat.zero_add] at hn
  have c1 : wrap64 (((xs.length + 1 : Nat) : Int) - 1) = (xs.length : Int) := by unfold wrap64; omega
  have c2 : (((xs.length + 1 : Nat) : Int) - 1) = (xs.length : Int) := by omega
  have c3 : wrap64 (xs.length : Int) = xs.length := by unfold wrap64; omega
  have c5 := i64k (xs.length : Int) (by omega) (by omega)
  have c4 : ((xs.length : Int) + 1 - 1) = (xs.length : Int) := by omega
  go_enter Try.func84, Try.ntmps84
  go_wp2_with (fail)
  refine hlen.mono ?_; rintro e w1 ⟨rfl, rfl⟩
  go_wp2_with (fail)
  refine hat.mono ?_; rintro e w1 ⟨rfl, hk1⟩
  have K1 : Keeps [] w w1 := ((Keeps.refl [] w).alloc _).trans hk1 (by simp)
  have hk := hk1.size
  simp only [World.size_alloc] at hk
  have H1 := h.keeps K1 (by simp) (by simp)
  clear hat hlen hA
  go_wp2_with (fail)
  refine wp_at (fun W => RingIs 151 230 2 W r pb N C frm cells (xs ++ [[.int .u64 a0, .int .u64 a1]]) ∧ Blk W w1.heap.size 151 [.int .u64 a0, .int .u64 a1] ∧ Blk W (w1.heap.size + 1) 151 [.int .u64 0, .int .u64 0] ∧ Blk W w.heap.size 151 [.int .u64 0, .int .u64 0] ∧ Keeps [] w W) ?_ ?_
  · refine ⟨H1.keeps ((Keeps.refl [] _).alloc _ |>.alloc _) (by simp) (by simp), (Blk.new w1 _ [.int .u64 a0, .int .u64 a1]).alloc _, by simpa using Blk.new (w1.alloc (.cells #[.int .u64 a0, .int .u64 a1] 151)) 151 [.int .u64 0, .int .u64 0], ?_, (K1.alloc _).alloc _⟩
    exact (((Blk.new w _ [.int .u64 0, .int .u64 0]).keeps hk1 (by simp)).alloc _).alloc _
  rintro W2 ⟨H2, T4, T6, T2, K2⟩
  generalize w1.heap.size = b4 at *
  obtain ⟨s, hs⟩ : ∃ s, Hid (s = YtaceikdmepeoiaaR.slot frm N xs.length) := ⟨_, rfl⟩
  have y0 : W2.cell? ⟨pb, s * 2 + 0, none⟩ = some (.int .u64 a0) := by rw [hs.out]; exact H2.at_ (i := xs.length) (x := [.int .u64 a0, .int .u64 a1]) (by simp) (j := 0) (by decide)
  have z0 := H2.places.frozen (s * 2 + 0)
  have y1 : W2.cell? ⟨pb, s * 2 + 1, none⟩ = some (.int .u64 a1) := by rw [hs.out]; exact H2.at_ (i := xs.length) (x := [.int .u64 a0, .int .u64 a1]) (by simp) (j := 1) (by decide)
  have z1 := H2.places.frozen (s * 2 + 1)
  have R2 : Blk W2 r 230 [.slice (some ⟨pb, 0, none⟩) N C, .int .i64 frm, .int .i64 ((xs.length : Int) + 1)] := by simpa using H2.ring
  have q0 := R2.cell 0
  have q1 := R2.cell 1
  have q2 := R2.cell 2
  have p2 := R2.frozen 2
  simp only [Nat.add_zero, List.getElem?_cons_zero, List.getElem?_cons_succ] at y0 z0 q0 q1 q2
  refine start_ (n := 10) (S := fun w' => w'.cell? ⟨r, 0, none⟩ = some (.slice (some ⟨pb, 0, none⟩) N C) ∧ w'.cell? ⟨r, 1, none⟩ = some (.int .i64 frm) ∧ w'.cell? ⟨r, 2, none⟩ = some (.int .i64 ((xs.length : Int) + 1)) ∧ w'.cell? ⟨b4 + 1, 0, none⟩ = some (.int .u64 0) ∧ w'.cell? ⟨b4 + 1, 1, none⟩ = some (.int .u64 0)) (ds := [9]) #[false, false, false, false, false, false, false, false, false, false] (by kernel_rfl) rfl rfl ⟨H2.c0, H2.c1, q2, (T6.cell 0), (T6.cell 1)⟩ (fun hHeld => ?_)
  refine pure_ (i := 0) (N := some 16) (v := ?_) (a' := ?_) #[true, false, false, false, false, false, false, false, false, false] rfl rfl (by kernel_rfl) (fun _ _ _ h => h) (Or.inl ⟨by rfl, ?_⟩) ?_ ?_
  rotate_left
  · intro w'
    go_simp
    with_reducible rfl
  rotate_left
  · simp only [Act.put, List.setIfInBounds_toArray, List.set_cons_zero, List.set_cons_succ, i64_w, i32_w]
    rfl
  refine pure_ (i := 1) (N := some 17) (v := ?_) (a' := ?_) #[true, true, false, false, false, false, false, false, false, false] rfl rfl (by kernel_rfl) (fun _ _ _ h => h) (Or.inl ⟨by rfl, ?_⟩) ?_ ?_
  rotate_left
  · intro w'
    go_simp
    with_reducible rfl
  rotate_left
  · simp only [Act.put, List.setIfInBounds_toArray, List.set_cons_zero, List.set_cons_succ, i64_w, i32_w]
    rfl
  refine pure_ (i := 2) (N := some 18) (v := ?_) (a' := ?_) #[true, true, true, false, false, false, false, false, false, false] rfl rfl (by kernel_rfl) (fun _ _ _ h => h) (Or.inl ⟨by rfl, ?_⟩) ?_ ?_
  rotate_left
  · intro w'
    go_simp
    with_reducible rfl
  rotate_left
  · simp only [Act.put, List.setIfInBounds_toArray, List.set_cons_zero, List.set_cons_succ, i64_w, i32_w]
    rfl
  refine pure_ (i := 3) (N := some 19) (v := ?_) (a' := ?_) #[true, true, true, true, false, false, false, false, false, false] rfl rfl (by kernel_rfl) (fun _ _ _ h => h) (Or.inl ⟨by rfl, ?_⟩) ?_ ?_
  rotate_left
  · intro w'
    go_simp
    with_reducible rfl
  rotate_left
  · simp only [Act.put, List.setIfInBounds_toArray, List.set_cons_zero, List.set_cons_succ, i64_w, i32_w]
    rfl
  refine take_ (i := 4) (N := some 20) (v := ?_) (a' := ?_) #[true, true, true, true, true, false, false, false, false, false] rfl rfl (by kernel_rfl) (fun _ _ _ h => h) (Or.inl ⟨by rfl, ?_⟩) hHeld ?_ ?_
  rotate_left
  · rintro w' ⟨s0, s1, s2, s3, s4⟩
    go_simp
    with_reducible rfl
  rotate_left
  · simp only [Act.put, List.setIfInBounds_toArray, List.set_cons_zero, List.set_cons_succ, i64_w, i32_w]
    rfl
  refine pure_ (i := 5) (N := some 21) (v := ?_) (a' := ?_) #[true, true, true, true, true, true, false, false, false, false] rfl rfl (by kernel_rfl) (fun _ _ _ h => h) (Or.inl ⟨by rfl, ?_⟩) ?_ ?_
  rotate_left
  · intro w'
    go_simp
    with_reducible rfl
  rotate_left
  · simp only [Act.put, List.setIfInBounds_toArray, List.set_cons_zero, List.set_cons_succ, i64_w, i32_w]
    rfl
  refine take_ (i := 7) (N := some 23) (v := ?_) (a' := ?_) #[true, true, true, true, true, true, false, true, false, false] rfl rfl (by kernel_rfl) (fun _ _ _ h => h) (Or.inl ⟨by rfl, ?_⟩) hHeld ?_ ?_
  rotate_left
  · rintro w' ⟨s0, s1, s2, s3, s4⟩
    go_simp
    with_reducible rfl
  rotate_left
  · simp only [Act.put, List.setIfInBounds_toArray, List.set_cons_zero, List.set_cons_succ, i64_w, i32_w]
    rfl
  refine one_ (i := 6) (N := some 22) #[true, true, true, true, true, true, true, true, false, false] rfl rfl (by kernel_rfl) (by decide) (fun K hK => ?_)
  refine goes_ Try.func154 (by kernel_rfl) rfl #[.pointer (some ⟨r, 0, none⟩), .int .i64 xs.length] (by rfl) rfl rfl (by simp only [List.map_toArray, List.map_cons, List.map_nil]; rfl) ?_
  with_reducible refine (place_any r pb N C frm xs.length W2.drew (by omega) f1 hm hHeld.1 hHeld.2.1 s hs).mono ?_
  rintro e w3 ⟨rfl, rfl⟩
  refine ⟨_, rfl, ?_⟩
  refine hK.out _ _ ⟨H2.c0, H2.c1, q2, (T6.cell 0), (T6.cell 1)⟩ (fun hHeld => ?_)
  clear hK K
  refine norm_ (a' := ?_) ?_ ?_
  rotate_left
  · show Act.put _ (some 22) _ = _
    simp only [Act.put, List.setIfInBounds_toArray, List.set_cons_zero, List.set_cons_succ, i64_w, i32_w]
    rfl
  refine pure_ (i := 8) (N := some 24) (v := ?_) (a' := ?_) #[true, true, true, true, true, true, true, true, true, false] rfl rfl (by kernel_rfl) (fun _ _ _ h => h) (Or.inl ⟨by rfl, ?_⟩) ?_ ?_
  rotate_left
  · intro w'
    go_simp
    with_reducible rfl
  rotate_left
  · simp only [Act.put, List.setIfInBounds_toArray, List.set_cons_zero, List.set_cons_succ, i64_w, i32_w]
    rfl
  refine last_ (i := 9) (N := none) #[true, true, true, true, true, true, true, true, true, true] rfl rfl (by kernel_rfl) (by decide) (fun K hK => ?_)
  refine skip_ (w1 := ?_) (by rfl) rfl ?_ ?_
  rotate_left
  · go_simp
    rfl
  refine hK.out _ _ ?_
  clear hK K
  refine done_ (by kernel_rfl) ?_
  have x0 := T4.cell 0
  have u0 := T2.cell 0
  have v0 := T2.frozen 0
  have x1 := T4.cell 1
  have u1 := T2.cell 1
  have v1 := T2.frozen 1
  simp only [List.getElem?_cons_zero, List.getElem?_cons_succ] at x0 u0 x1 u1
  have n4 : pb < b4 := by omega
  go_wp2
  refine bodyPost_ret (v := .tuple #[.agg #[.int .u64 a0, .int .u64 a1], .bool true]) (by simp [results, Try.results84, go_sem, x0, u0, x1, u1]) rfl ⟨rfl, ⟨N, C, frm, YtaceikdmepeoiaaR.wr cells (s * 2) [.int .u64 0, .int .u64 0], ?_⟩, ?_⟩
  · rw [← hs.out] at hrb
    have Y : Blk W2 pb 151 cells := H2.places
    have hne' := hne.symm
    exact ⟨(by (repeat (first | with_reducible exact R2 | with_reducible apply Blk.drew | with_reducible apply Blk.drewN | with_reducible refine Blk.newAt (by simp; done) | with_reducible apply Blk.alloc | with_reducible apply Blk.set2 | with_reducible apply Blk.far)); (all_goals (first | rfl | assumption | (simp; done) | (simp; omega) | omega))), (by (repeat (first | with_reducible exact Y | with_reducible apply Blk.drew | with_reducible apply Blk.drewN | with_reducible refine Blk.newAt (by simp; done) | with_reducible apply Blk.alloc | with_reducible apply Blk.set2 | with_reducible apply Blk.far)); (all_goals (first | rfl | assumption | (simp; done) | (simp; omega) | omega))), hrb, hnc, by rw [YtaceikdmepeoiaaR.wr_length]; exact hcl, f2, hm, wr_one h.one (by simp [Value.oneCell'])⟩
  · have K3 : Keeps [r, pb] w W2 := K2.mono (by simp)
    exact (by repeat (first | with_reducible exact K3 | refine Keeps.drew ?_ | refine Keeps.drewN ?_ _ | refine Keeps.alloc ?_ _ | refine Keeps.set_ ?_ (by first | (left; simp; done) | (right; simp; done) | (right; simp; omega) | (right; omega)) _))
end Rd
end Go.Proofs.Ytaceikdmepeoiaa
