/- The walks of ring.Ring[jitter.due]: At, Shift, Pop. -/
import Derived.Test.YtjnojomfaikfjaaRingBDu
namespace Go.Proofs.Ytjnojomfaikfjaa
set_option linter.unusedSimpArgs false
set_option linter.unusedVariables false
open Go.RowKit Go.Proofs.YtjnojomfaikfjaaW.PrintLast
namespace Du
theorem at_yes (r pb : Nat) (a0 a1 a2 a3 a4 a5 : Int) (a6 : Bool) (a7 : Int) (i : Nat) (xs : List (List Value)) (w : World) (h : At w r pb xs) (hx : xs[i]? = some [.int .u64 a0, .int .u64 a1, .int .u64 a2, .int .u64 a3, .int .u64 a4, .int .u64 a5, .bool a6, .int .u64 a7]) :
    Calls Try.prog 111 #[.pointer (some ⟨r, 0, none⟩), .int .i64 i] w fun e w' => e = .returned (.tuple #[.agg #[.int .u64 a0, .int .u64 a1, .int .u64 a2, .int .u64 a3, .int .u64 a4, .int .u64 a5, .bool a6, .int .u64 a7], .bool true]) ∧ Keeps [] w w' := by
  obtain ⟨N, C, frm, cells, h⟩ := h
  have hi : i < xs.length := (List.getElem?_eq_some_iff.1 hx).1
  have hn := h.rb.n_le
  exact at_yes0 r pb N C frm xs.length i (YtjnojomfaikfjaaR.slot frm N i) a0 a1 a2 a3 a4 a5 a6 a7 w (by omega) hi h.rb.frm_lt h.most h.places.lt h.c0 h.c1 h.c2 (show Hid _ from rfl) ((h.at_ hx (j := 0) (by decide)).trans rfl) ((h.at_ hx (j := 1) (by decide)).trans rfl) ((h.at_ hx (j := 2) (by decide)).trans rfl) ((h.at_ hx (j := 3) (by decide)).trans rfl) ((h.at_ hx (j := 4) (by decide)).trans rfl) ((h.at_ hx (j := 5) (by decide)).trans rfl) ((h.at_ hx (j := 6) (by decide)).trans rfl) ((h.at_ hx (j := 7) (by decide)).trans rfl)
theorem place_0 (r pb N C frm : Nat) (w : World) (hi : 0 < N) (hf : frm < N) (hN : N ≤ 4294967296) (h0 : w.cell? ⟨r, 0, none⟩ = some (.slice (some ⟨pb, 0, none⟩) N C)) (h1 : w.cell? ⟨r, 1, none⟩ = some (.int .i64 frm)) (s : Nat) (hs : Hid (s = YtjnojomfaikfjaaR.slot frm N 0)) :
    Calls Try.prog 134 #[.pointer (some ⟨r, 0, none⟩), .int .i64 0] w fun e w' => e = .returned (.pointer (some ⟨pb, s * 8, none⟩)) ∧ w' = w.drew := by
  simpa using place_any r pb N C frm 0 w hi hf hN h0 h1 s hs
set_option maxHeartbeats 40000000 in
set_option maxRecDepth 100000 in
theorem shift_yes (r pb : Nat) (a0 a1 a2 a3 a4 a5 : Int) (a6 : Bool) (a7 : Int) (xs : List (List Value)) (w : World) (h : At w r pb ([.int .u64 a0, .int .u64 a1, .int .u64 a2, .int .u64 a3, .int .u64 a4, .int .u64 a5, .bool a6, .int .u64 a7] :: xs)) :
    Calls Try.prog 131 #[.pointer (some ⟨r, 0, none⟩)] w fun e w' => e = .returned (.tuple #[.agg #[.int .u64 a0, .int .u64 a1, .int .u64 a2, .int .u64 a3, .int .u64 a4, .int .u64 a5, .bool a6, .int .u64 a7], .bool true]) ∧ At w' r pb xs ∧ Keeps [r, pb] w w' := by
  have hat := at_yes r pb a0 a1 a2 a3 a4 a5 a6 a7 0 _ (w.alloc (.cells #[.int .u64 0, .int .u64 0, .int .u64 0, .int .u64 0, .int .u64 0, .int .u64 0, .bool false, .int .u64 0] 166)) (h.keeps ((Keeps.refl [] w).alloc _) (by simp) (by simp)) rfl
  obtain ⟨N, C, frm, cells, h⟩ := h
  have hr := h.ring.lt
  have hp := h.places.lt
  have hne : r ≠ pb := h.ring.ne_ h.places (by decide)
  go_enter Try.func131, Try.ntmps131
  go_wp2_with (fail)
  refine hat.mono ?_; rintro e w1 ⟨rfl, hk1⟩
  have K1 : Keeps [] w w1 := ((Keeps.refl [] w).alloc _).trans hk1 (by simp)
  have hk := hk1.size
  simp at hk
  have H1 := h.keeps K1 (by simp) (by simp)
  go_wp2_with (fail)
  refine wp_at (fun W => RingIs 166 198 8 W r pb N C frm cells ([.int .u64 a0, .int .u64 a1, .int .u64 a2, .int .u64 a3, .int .u64 a4, .int .u64 a5, .bool a6, .int .u64 a7] :: xs) ∧ Blk W w1.heap.size 166 [.int .u64 a0, .int .u64 a1, .int .u64 a2, .int .u64 a3, .int .u64 a4, .int .u64 a5, .bool a6, .int .u64 a7] ∧ Blk W (w1.heap.size + 1) 166 [.int .u64 0, .int .u64 0, .int .u64 0, .int .u64 0, .int .u64 0, .int .u64 0, .bool false, .int .u64 0] ∧ Blk W w.heap.size 166 [.int .u64 0, .int .u64 0, .int .u64 0, .int .u64 0, .int .u64 0, .int .u64 0, .bool false, .int .u64 0] ∧ Keeps [] w W) ?_ ?_
  · refine ⟨H1.keeps ((Keeps.refl [] _).alloc _ |>.alloc _) (by simp) (by simp), (Blk.new w1 _ [.int .u64 a0, .int .u64 a1, .int .u64 a2, .int .u64 a3, .int .u64 a4, .int .u64 a5, .bool a6, .int .u64 a7]).alloc _, by simpa using Blk.new (w1.alloc (.cells #[.int .u64 a0, .int .u64 a1, .int .u64 a2, .int .u64 a3, .int .u64 a4, .int .u64 a5, .bool a6, .int .u64 a7] 166)) 166 [.int .u64 0, .int .u64 0, .int .u64 0, .int .u64 0, .int .u64 0, .int .u64 0, .bool false, .int .u64 0], ?_, (K1.alloc _).alloc _⟩
    exact (((Blk.new w _ [.int .u64 0, .int .u64 0, .int .u64 0, .int .u64 0, .int .u64 0, .int .u64 0, .bool false, .int .u64 0]).keeps hk1 (by simp)).alloc _).alloc _
  rintro W2 ⟨H2, T4, T6, T2, K2⟩
  generalize w1.heap.size = b4 at *
  obtain ⟨s, hs⟩ : ∃ s, Hid (s = YtjnojomfaikfjaaR.slot frm N 0) := ⟨_, rfl⟩
  have f1 := H2.rb.frm_lt
  have f2 := H2.four
  have y0 : W2.cell? ⟨pb, s * 8 + 0, none⟩ = some (.int .u64 a0) := by rw [hs.out]; exact H2.at_ (i := 0) rfl (j := 0) (by decide)
  have z0 := H2.places.frozen (s * 8 + 0)
  have y1 : W2.cell? ⟨pb, s * 8 + 1, none⟩ = some (.int .u64 a1) := by rw [hs.out]; exact H2.at_ (i := 0) rfl (j := 1) (by decide)
  have z1 := H2.places.frozen (s * 8 + 1)
  have y2 : W2.cell? ⟨pb, s * 8 + 2, none⟩ = some (.int .u64 a2) := by rw [hs.out]; exact H2.at_ (i := 0) rfl (j := 2) (by decide)
  have z2 := H2.places.frozen (s * 8 + 2)
  have y3 : W2.cell? ⟨pb, s * 8 + 3, none⟩ = some (.int .u64 a3) := by rw [hs.out]; exact H2.at_ (i := 0) rfl (j := 3) (by decide)
  have z3 := H2.places.frozen (s * 8 + 3)
  have y4 : W2.cell? ⟨pb, s * 8 + 4, none⟩ = some (.int .u64 a4) := by rw [hs.out]; exact H2.at_ (i := 0) rfl (j := 4) (by decide)
  have z4 := H2.places.frozen (s * 8 + 4)
  have y5 : W2.cell? ⟨pb, s * 8 + 5, none⟩ = some (.int .u64 a5) := by rw [hs.out]; exact H2.at_ (i := 0) rfl (j := 5) (by decide)
  have z5 := H2.places.frozen (s * 8 + 5)
  have y6 : W2.cell? ⟨pb, s * 8 + 6, none⟩ = some (.bool a6) := by rw [hs.out]; exact H2.at_ (i := 0) rfl (j := 6) (by decide)
  have z6 := H2.places.frozen (s * 8 + 6)
  have y7 : W2.cell? ⟨pb, s * 8 + 7, none⟩ = some (.int .u64 a7) := by rw [hs.out]; exact H2.at_ (i := 0) rfl (j := 7) (by decide)
  have z7 := H2.places.frozen (s * 8 + 7)
  simp only [Nat.add_zero] at y0 z0
  refine start_ (n := 5) (S := fun w' => w'.cell? ⟨r, 0, none⟩ = some (.slice (some ⟨pb, 0, none⟩) N C) ∧ w'.cell? ⟨r, 1, none⟩ = some (.int .i64 frm) ∧ w'.cell? ⟨b4 + 1, 0, none⟩ = some (.int .u64 0) ∧ w'.cell? ⟨b4 + 1, 1, none⟩ = some (.int .u64 0) ∧ w'.cell? ⟨b4 + 1, 2, none⟩ = some (.int .u64 0) ∧ w'.cell? ⟨b4 + 1, 3, none⟩ = some (.int .u64 0) ∧ w'.cell? ⟨b4 + 1, 4, none⟩ = some (.int .u64 0) ∧ w'.cell? ⟨b4 + 1, 5, none⟩ = some (.int .u64 0) ∧ w'.cell? ⟨b4 + 1, 6, none⟩ = some (.bool false) ∧ w'.cell? ⟨b4 + 1, 7, none⟩ = some (.int .u64 0)) (ds := [4]) #[false, false, false, false, false] (by kernel_rfl) rfl rfl ⟨H2.c0, H2.c1, (T6.cell 0), (T6.cell 1), (T6.cell 2), (T6.cell 3), (T6.cell 4), (T6.cell 5), (T6.cell 6), (T6.cell 7)⟩ (fun hHeld => ?_)
  refine pure_ (i := 0) (N := some 13) (v := ?_) (a' := ?_) #[true, false, false, false, false] rfl rfl (by kernel_rfl) (fun _ _ _ h => h) (Or.inl ⟨by rfl, ?_⟩) ?_ ?_
  rotate_left
  · intro w'
    go_simp
    with_reducible rfl
  rotate_left
  · simp only [Act.put, List.setIfInBounds_toArray, List.set_cons_zero, List.set_cons_succ, i64_w, i32_w]
    rfl
  refine take_ (i := 2) (N := some 15) (v := ?_) (a' := ?_) #[true, false, true, false, false] rfl rfl (by kernel_rfl) (fun _ _ _ h => h) (Or.inl ⟨by rfl, ?_⟩) hHeld ?_ ?_
  rotate_left
  · rintro w' ⟨s0, s1, s2, s3, s4, s5, s6, s7, s8, s9⟩
    go_simp
    with_reducible rfl
  rotate_left
  · simp only [Act.put, List.setIfInBounds_toArray, List.set_cons_zero, List.set_cons_succ, i64_w, i32_w]
    rfl
  refine one_ (i := 1) (N := some 14) #[true, true, true, false, false] rfl rfl (by kernel_rfl) (by decide) (fun K hK => ?_)
  refine goes_ Try.func134 (by kernel_rfl) rfl #[.pointer (some ⟨r, 0, none⟩), .int .i64 0] (by rfl) rfl rfl (by simp only [List.map_toArray, List.map_cons, List.map_nil]; rfl) ?_
  with_reducible refine (place_0 r pb N C frm W2.drew (by omega) f1 H2.most hHeld.1 hHeld.2.1 s hs).mono ?_
  rintro e w3 ⟨rfl, rfl⟩
  refine ⟨_, rfl, ?_⟩
  refine hK.out _ _ ⟨H2.c0, H2.c1, (T6.cell 0), (T6.cell 1), (T6.cell 2), (T6.cell 3), (T6.cell 4), (T6.cell 5), (T6.cell 6), (T6.cell 7)⟩ (fun hHeld => ?_)
  clear hK K
  refine norm_ (a' := ?_) ?_ ?_
  rotate_left
  · show Act.put _ (some 14) _ = _
    simp only [Act.put, List.setIfInBounds_toArray, List.set_cons_zero, List.set_cons_succ, i64_w, i32_w]
    rfl
  refine pure_ (i := 3) (N := some 16) (v := ?_) (a' := ?_) #[true, true, true, true, false] rfl rfl (by kernel_rfl) (fun _ _ _ h => h) (Or.inl ⟨by rfl, ?_⟩) ?_ ?_
  rotate_left
  · intro w'
    go_simp
    with_reducible rfl
  rotate_left
  · simp only [Act.put, List.setIfInBounds_toArray, List.set_cons_zero, List.set_cons_succ, i64_w, i32_w]
    rfl
  refine last_ (i := 4) (N := none) #[true, true, true, true, true] rfl rfl (by kernel_rfl) (by decide) (fun K hK => ?_)
  refine skip_ (w1 := ?_) (by rfl) rfl ?_ ?_
  rotate_left
  · go_simp
    rfl
  refine hK.out _ _ ?_
  clear hK K
  refine done_ (by kernel_rfl) ?_
  go_wp2_with (fail)
  have n4 : pb < b4 := by have := H2.places.lt; have := h.places.lt; omega
  refine wp_at (fun W => Blk W r 198 [.slice (some ⟨pb, 0, none⟩) N C, .int .i64 frm, .int .i64 ((xs.length : Int) + 1)] ∧ Blk W pb 166 (YtjnojomfaikfjaaR.wr cells (s * 8) [.int .u64 0, .int .u64 0, .int .u64 0, .int .u64 0, .int .u64 0, .int .u64 0, .bool false, .int .u64 0]) ∧ Blk W b4 166 [.int .u64 a0, .int .u64 a1, .int .u64 a2, .int .u64 a3, .int .u64 a4, .int .u64 a5, .bool a6, .int .u64 a7] ∧ Blk W w.heap.size 166 [.int .u64 0, .int .u64 0, .int .u64 0, .int .u64 0, .int .u64 0, .int .u64 0, .bool false, .int .u64 0] ∧ Keeps [r, pb] w W) ?_ ?_
  · have X : Blk W2 r 198 [.slice (some ⟨pb, 0, none⟩) N C, .int .i64 frm, .int .i64 ((xs.length : Int) + 1)] := by simpa using H2.ring
    have K2' : Keeps [r, pb] w W2 := K2.mono (by simp)
    have PX := H2.places
    refine ⟨(by (repeat (first | with_reducible exact X | with_reducible apply Blk.drew | with_reducible apply Blk.drewN | with_reducible refine Blk.newAt (by simp; done) | with_reducible apply Blk.alloc | with_reducible apply Blk.set2 | with_reducible apply Blk.far)); (all_goals (first | rfl | assumption | (simp; done) | (simp; omega) | omega))), ?_, (by (repeat (first | with_reducible exact T4 | with_reducible apply Blk.drew | with_reducible apply Blk.drewN | with_reducible refine Blk.newAt (by simp; done) | with_reducible apply Blk.alloc | with_reducible apply Blk.set2 | with_reducible apply Blk.far)); (all_goals (first | rfl | assumption | (simp; done) | (simp; omega) | omega))), (by (repeat (first | with_reducible exact T2 | with_reducible apply Blk.drew | with_reducible apply Blk.drewN | with_reducible refine Blk.newAt (by simp; done) | with_reducible apply Blk.alloc | with_reducible apply Blk.set2 | with_reducible apply Blk.far)); (all_goals (first | rfl | assumption | (simp; done) | (simp; omega) | omega))), (by (repeat (first | with_reducible exact K2' | with_reducible apply Keeps.drew | with_reducible apply Keeps.drewN | with_reducible apply Keeps.alloc | with_reducible apply Keeps.set_)); (all_goals (first | (left; simp; done) | (right; simp; done) | (right; simp; omega) | (right; omega))))⟩
    simp only [YtjnojomfaikfjaaR.wr, Nat.add_assoc, Nat.reduceAdd]
    repeat (first | with_reducible exact PX | with_reducible apply Blk.drew | with_reducible apply Blk.set_)
  rintro W3 ⟨R3, P3, T4', T2', K3⟩
  have hm := h.most
  have hrb := h.rb.shift [.int .u64 0, .int .u64 0, .int .u64 0, .int .u64 0, .int .u64 0, .int .u64 0, .bool false, .int .u64 0] rfl
  have hn := h.rb.n_le
  have hcl := h.len
  have hnc := h.nc
  simp only [List.length_cons] at hn
  clear hat y0 z0 y1 z1 y2 z2 y3 z3 y4 z4 y5 z5 y6 z6 y7 z7 T4 T6 T2 H2 H1 hk1 hHeld
  clear hHeld
  have hz : ¬ N = 0 := by omega
  obtain ⟨s', hs'⟩ : ∃ s', Hid (s' = (frm + 1) % N) := ⟨_, rfl⟩
  have e1 : wrap64 ((frm : Int) + 1) = frm + 1 := by unfold wrap64; omega
  have e2 : ((frm : Int) + 1).tmod N = s' := by rw [hs'.out, Int.tmod_eq_emod_of_nonneg (by omega)]; rfl
  have e3 : wrap64 ((xs.length : Int) + 1 - 1) = xs.length := by unfold wrap64; omega
  have e4 : (xs.length : Int) + 1 - 1 = xs.length := by omega
  have e5 : wrap64 (xs.length : Int) = xs.length := by unfold wrap64; omega
  have q0 := R3.cell 0
  have q1 := R3.cell 1
  have q2 := R3.cell 2
  have p0 := R3.frozen 0
  have p1 := R3.frozen 1
  have p2 := R3.frozen 2
  have x0 := T4'.cell 0
  have u0 := T2'.cell 0
  have v0 := T2'.frozen 0
  have x1 := T4'.cell 1
  have u1 := T2'.cell 1
  have v1 := T2'.frozen 1
  have x2 := T4'.cell 2
  have u2 := T2'.cell 2
  have v2 := T2'.frozen 2
  have x3 := T4'.cell 3
  have u3 := T2'.cell 3
  have v3 := T2'.frozen 3
  have x4 := T4'.cell 4
  have u4 := T2'.cell 4
  have v4 := T2'.frozen 4
  have x5 := T4'.cell 5
  have u5 := T2'.cell 5
  have v5 := T2'.frozen 5
  have x6 := T4'.cell 6
  have u6 := T2'.cell 6
  have v6 := T2'.frozen 6
  have x7 := T4'.cell 7
  have u7 := T2'.cell 7
  have v7 := T2'.frozen 7
  simp only [List.getElem?_cons_zero, List.getElem?_cons_succ] at q0 q1 q2 x0 u0 x1 u1 x2 u2 x3 u3 x4 u4 x5 u5 x6 u6 x7 u7
  refine start_ (n := 24) (S := fun w' => w'.cell? ⟨r, 0, none⟩ = some (.slice (some ⟨pb, 0, none⟩) N C) ∧ w'.cell? ⟨r, 1, none⟩ = some (.int .i64 frm) ∧ w'.cell? ⟨r, 2, none⟩ = some (.int .i64 ((xs.length : Int) + 1))) (ds := [20, 23]) #[false, false, false, false, false, false, false, false, false, false, false, false, false, false, false, false, false, false, false, false, false, false, false, false] (by kernel_rfl) rfl rfl ⟨q0, q1, q2⟩ (fun hHeld => ?_)
  refine pure_ (i := 0) (N := some 17) (v := ?_) (a' := ?_) #[true, false, false, false, false, false, false, false, false, false, false, false, false, false, false, false, false, false, false, false, false, false, false, false] rfl rfl (by kernel_rfl) (fun _ _ _ h => h) (Or.inl ⟨by rfl, ?_⟩) ?_ ?_
  rotate_left
  · intro w'
    go_simp
    with_reducible rfl
  rotate_left
  · simp only [Act.put, List.setIfInBounds_toArray, List.set_cons_zero, List.set_cons_succ, i64_w, i32_w]
    rfl
  refine pure_ (i := 1) (N := some 18) (v := ?_) (a' := ?_) #[true, true, false, false, false, false, false, false, false, false, false, false, false, false, false, false, false, false, false, false, false, false, false, false] rfl rfl (by kernel_rfl) (fun _ _ _ h => h) (Or.inl ⟨by rfl, ?_⟩) ?_ ?_
  rotate_left
  · intro w'
    go_simp
    with_reducible rfl
  rotate_left
  · simp only [Act.put, List.setIfInBounds_toArray, List.set_cons_zero, List.set_cons_succ, i64_w, i32_w]
    rfl
  refine pure_ (i := 2) (N := some 19) (v := ?_) (a' := ?_) #[true, true, true, false, false, false, false, false, false, false, false, false, false, false, false, false, false, false, false, false, false, false, false, false] rfl rfl (by kernel_rfl) (fun _ _ _ h => h) (Or.inl ⟨by rfl, ?_⟩) ?_ ?_
  rotate_left
  · intro w'
    go_simp
    with_reducible rfl
  rotate_left
  · simp only [Act.put, List.setIfInBounds_toArray, List.set_cons_zero, List.set_cons_succ, i64_w, i32_w]
    rfl
  refine pure_ (i := 3) (N := some 20) (v := ?_) (a' := ?_) #[true, true, true, true, false, false, false, false, false, false, false, false, false, false, false, false, false, false, false, false, false, false, false, false] rfl rfl (by kernel_rfl) (fun _ _ _ h => h) (Or.inl ⟨by rfl, ?_⟩) ?_ ?_
  rotate_left
  · intro w'
    go_simp
    with_reducible rfl
  rotate_left
  · simp only [Act.put, List.setIfInBounds_toArray, List.set_cons_zero, List.set_cons_succ, i64_w, i32_w]
    rfl
  refine pure_ (i := 4) (N := some 21) (v := ?_) (a' := ?_) #[true, true, true, true, true, false, false, false, false, false, false, false, false, false, false, false, false, false, false, false, false, false, false, false] rfl rfl (by kernel_rfl) (fun _ _ _ h => h) (Or.inl ⟨by rfl, ?_⟩) ?_ ?_
  rotate_left
  · intro w'
    go_simp
    with_reducible rfl
  rotate_left
  · simp only [Act.put, List.setIfInBounds_toArray, List.set_cons_zero, List.set_cons_succ, i64_w, i32_w]
    rfl
  refine pure_ (i := 7) (N := some 24) (v := ?_) (a' := ?_) #[true, true, true, true, true, false, false, true, false, false, false, false, false, false, false, false, false, false, false, false, false, false, false, false] rfl rfl (by kernel_rfl) (fun _ _ _ h => h) (Or.inl ⟨by rfl, ?_⟩) ?_ ?_
  rotate_left
  · intro w'
    go_simp
    with_reducible rfl
  rotate_left
  · simp only [Act.put, List.setIfInBounds_toArray, List.set_cons_zero, List.set_cons_succ, i64_w, i32_w]
    rfl
  refine pure_ (i := 8) (N := some 25) (v := ?_) (a' := ?_) #[true, true, true, true, true, false, false, true, true, false, false, false, false, false, false, false, false, false, false, false, false, false, false, false] rfl rfl (by kernel_rfl) (fun _ _ _ h => h) (Or.inl ⟨by rfl, ?_⟩) ?_ ?_
  rotate_left
  · intro w'
    go_simp
    with_reducible rfl
  rotate_left
  · simp only [Act.put, List.setIfInBounds_toArray, List.set_cons_zero, List.set_cons_succ, i64_w, i32_w]
    rfl
  refine pure_ (i := 9) (N := some 26) (v := ?_) (a' := ?_) #[true, true, true, true, true, false, false, true, true, true, false, false, false, false, false, false, false, false, false, false, false, false, false, false] rfl rfl (by kernel_rfl) (fun _ _ _ h => h) (Or.inl ⟨by rfl, ?_⟩) ?_ ?_
  rotate_left
  · intro w'
    go_simp
    with_reducible rfl
  rotate_left
  · simp only [Act.put, List.setIfInBounds_toArray, List.set_cons_zero, List.set_cons_succ, i64_w, i32_w]
    rfl
  refine pure_ (i := 13) (N := some 30) (v := ?_) (a' := ?_) #[true, true, true, true, true, false, false, true, true, true, false, false, false, true, false, false, false, false, false, false, false, false, false, false] rfl rfl (by kernel_rfl) (fun _ _ _ h => h) (Or.inl ⟨by rfl, ?_⟩) ?_ ?_
  rotate_left
  · intro w'
    go_simp
    with_reducible rfl
  rotate_left
  · simp only [Act.put, List.setIfInBounds_toArray, List.set_cons_zero, List.set_cons_succ, i64_w, i32_w]
    rfl
  refine pure_ (i := 14) (N := some 31) (v := ?_) (a' := ?_) #[true, true, true, true, true, false, false, true, true, true, false, false, false, true, true, false, false, false, false, false, false, false, false, false] rfl rfl (by kernel_rfl) (fun _ _ _ h => h) (Or.inl ⟨by rfl, ?_⟩) ?_ ?_
  rotate_left
  · intro w'
    go_simp
    with_reducible rfl
  rotate_left
  · simp only [Act.put, List.setIfInBounds_toArray, List.set_cons_zero, List.set_cons_succ, i64_w, i32_w]
    rfl
  refine pure_ (i := 15) (N := some 32) (v := ?_) (a' := ?_) #[true, true, true, true, true, false, false, true, true, true, false, false, false, true, true, true, false, false, false, false, false, false, false, false] rfl rfl (by kernel_rfl) (fun _ _ _ h => h) (Or.inl ⟨by rfl, ?_⟩) ?_ ?_
  rotate_left
  · intro w'
    go_simp
    with_reducible rfl
  rotate_left
  · simp only [Act.put, List.setIfInBounds_toArray, List.set_cons_zero, List.set_cons_succ, i64_w, i32_w]
    rfl
  refine take_ (i := 5) (N := some 22) (v := ?_) (a' := ?_) #[true, true, true, true, true, true, false, true, true, true, false, false, false, true, true, true, false, false, false, false, false, false, false, false] rfl rfl (by kernel_rfl) (fun _ _ _ h => h) (Or.inl ⟨by rfl, ?_⟩) hHeld ?_ ?_
  rotate_left
  · rintro w' ⟨s0, s1, s2⟩
    go_simp
    with_reducible rfl
  rotate_left
  · simp only [Act.put, List.setIfInBounds_toArray, List.set_cons_zero, List.set_cons_succ, i64_w, i32_w]
    rfl
  refine pure_ (i := 6) (N := some 23) (v := ?_) (a' := ?_) #[true, true, true, true, true, true, true, true, true, true, false, false, false, true, true, true, false, false, false, false, false, false, false, false] rfl rfl (by kernel_rfl) (fun _ _ _ h => h) (Or.inl ⟨by rfl, ?_⟩) ?_ ?_
  rotate_left
  · intro w'
    go_simp
    with_reducible rfl
  rotate_left
  · simp only [Act.put, List.setIfInBounds_toArray, List.set_cons_zero, List.set_cons_succ, i64_w, i32_w]
    rfl
  refine take_ (i := 10) (N := some 27) (v := ?_) (a' := ?_) #[true, true, true, true, true, true, true, true, true, true, true, false, false, true, true, true, false, false, false, false, false, false, false, false] rfl rfl (by kernel_rfl) (fun _ _ _ h => h) (Or.inl ⟨by rfl, ?_⟩) hHeld ?_ ?_
  rotate_left
  · rintro w' ⟨s0, s1, s2⟩
    go_simp
    with_reducible rfl
  rotate_left
  · simp only [Act.put, List.setIfInBounds_toArray, List.set_cons_zero, List.set_cons_succ, i64_w, i32_w]
    rfl
  refine pure_ (i := 11) (N := some 28) (v := ?_) (a' := ?_) #[true, true, true, true, true, true, true, true, true, true, true, true, false, true, true, true, false, false, false, false, false, false, false, false] rfl rfl (by kernel_rfl) (fun _ _ _ h => h) (Or.inl ⟨by rfl, ?_⟩) ?_ ?_
  rotate_left
  · intro w'
    go_simp
    with_reducible rfl
  rotate_left
  · simp only [Act.put, List.setIfInBounds_toArray, List.set_cons_zero, List.set_cons_succ, i64_w, i32_w]
    rfl
  refine pure_ (i := 12) (N := some 29) (v := ?_) (a' := ?_) #[true, true, true, true, true, true, true, true, true, true, true, true, true, true, true, true, false, false, false, false, false, false, false, false] rfl rfl (by kernel_rfl) (fun _ _ _ h => h) (Or.inl ⟨by rfl, ?_⟩) ?_ ?_
  rotate_left
  · intro w'
    go_simp
    with_reducible rfl
  rotate_left
  · simp only [Act.put, List.setIfInBounds_toArray, List.set_cons_zero, List.set_cons_succ, i64_w, i32_w]
    rfl
  refine take_ (i := 16) (N := some 33) (v := ?_) (a' := ?_) #[true, true, true, true, true, true, true, true, true, true, true, true, true, true, true, true, true, false, false, false, false, false, false, false] rfl rfl (by kernel_rfl) (fun _ _ _ h => h) (Or.inl ⟨by rfl, ?_⟩) hHeld ?_ ?_
  rotate_left
  · rintro w' ⟨s0, s1, s2⟩
    go_simp
    with_reducible rfl
  rotate_left
  · simp only [Act.put, List.setIfInBounds_toArray, List.set_cons_zero, List.set_cons_succ, i64_w, i32_w]
    rfl
  refine pure_ (i := 17) (N := some 34) (v := ?_) (a' := ?_) #[true, true, true, true, true, true, true, true, true, true, true, true, true, true, true, true, true, true, false, false, false, false, false, false] rfl rfl (by kernel_rfl) (fun _ _ _ h => h) (Or.inl ⟨by rfl, ?_⟩) ?_ ?_
  rotate_left
  · intro w'
    go_simp
    with_reducible rfl
  rotate_left
  · simp only [Act.put, List.setIfInBounds_toArray, List.set_cons_zero, List.set_cons_succ, i64_w, i32_w]
    rfl
  refine pure_ (i := 18) (N := some 35) (v := ?_) (a' := ?_) #[true, true, true, true, true, true, true, true, true, true, true, true, true, true, true, true, true, true, true, false, false, false, false, false] rfl rfl (by kernel_rfl) (fun _ _ _ h => h) (Or.inl ⟨by rfl, ?_⟩) ?_ ?_
  rotate_left
  · intro w'
    go_simp
    with_reducible rfl
  rotate_left
  · simp only [Act.put, List.setIfInBounds_toArray, List.set_cons_zero, List.set_cons_succ, i64_w, i32_w]
    rfl
  refine pure_ (i := 19) (N := some 36) (v := ?_) (a' := ?_) #[true, true, true, true, true, true, true, true, true, true, true, true, true, true, true, true, true, true, true, true, false, false, false, false] rfl rfl (by kernel_rfl) (fun _ _ _ h => h) (Or.inl ⟨by rfl, ?_⟩) ?_ ?_
  rotate_left
  · intro w'
    go_simp
    with_reducible rfl
  rotate_left
  · simp only [Act.put, List.setIfInBounds_toArray, List.set_cons_zero, List.set_cons_succ, i64_w, i32_w]
    rfl
  refine last_ (i := 20) (N := none) #[true, true, true, true, true, true, true, true, true, true, true, true, true, true, true, true, true, true, true, true, true, false, false, false] rfl rfl (by kernel_rfl) (by decide) (fun K hK => ?_)
  refine skip_ (w1 := ?_) (by rfl) rfl ?_ ?_
  rotate_left
  · go_simp
    rfl
  refine hK.out _ _ ?_
  clear hK K
  refine pure_ (i := 21) (N := some 37) (v := ?_) (a' := ?_) #[true, true, true, true, true, true, true, true, true, true, true, true, true, true, true, true, true, true, true, true, true, true, false, false] rfl rfl (by kernel_rfl) (fun _ _ _ h => h) (Or.inl ⟨by rfl, ?_⟩) ?_ ?_
  rotate_left
  · intro w'
    go_simp
    with_reducible rfl
  rotate_left
  · simp only [Act.put, List.setIfInBounds_toArray, List.set_cons_zero, List.set_cons_succ, i64_w, i32_w]
    rfl
  refine pure_ (i := 22) (N := some 38) (v := ?_) (a' := ?_) #[true, true, true, true, true, true, true, true, true, true, true, true, true, true, true, true, true, true, true, true, true, true, true, false] rfl rfl (by kernel_rfl) (fun _ _ _ h => h) (Or.inl ⟨by rfl, ?_⟩) ?_ ?_
  rotate_left
  · intro w'
    go_simp
    with_reducible rfl
  rotate_left
  · simp only [Act.put, List.setIfInBounds_toArray, List.set_cons_zero, List.set_cons_succ, i64_w, i32_w]
    rfl
  refine last_ (i := 23) (N := none) #[true, true, true, true, true, true, true, true, true, true, true, true, true, true, true, true, true, true, true, true, true, true, true, true] rfl rfl (by kernel_rfl) (by decide) (fun K hK => ?_)
  refine skip_ (w1 := ?_) (by rfl) rfl ?_ ?_
  rotate_left
  · go_simp
    rfl
  refine hK.out _ _ ?_
  clear hK K
  refine done_ (by kernel_rfl) ?_
  go_wp2
  refine bodyPost_ret (v := .tuple #[.agg #[.int .u64 a0, .int .u64 a1, .int .u64 a2, .int .u64 a3, .int .u64 a4, .int .u64 a5, .bool a6, .int .u64 a7], .bool true]) (by simp [results, Try.results131, go_sem, x0, u0, x1, u1, x2, u2, x3, u3, x4, u4, x5, u5, x6, u6, x7, u7]) rfl ⟨rfl, ⟨N, C, s', YtjnojomfaikfjaaR.wr cells (s * 8) [.int .u64 0, .int .u64 0, .int .u64 0, .int .u64 0, .int .u64 0, .int .u64 0, .bool false, .int .u64 0], ?_⟩, ?_⟩
  · rw [hs'.out]
    rw [← hs.out] at hrb
    refine ⟨?_, (by (repeat (first | with_reducible exact P3 | with_reducible apply Blk.drew | with_reducible apply Blk.drewN | with_reducible refine Blk.newAt (by simp; done) | with_reducible apply Blk.alloc | with_reducible apply Blk.set2 | with_reducible apply Blk.far)); (all_goals (first | rfl | assumption | (simp; done) | (simp; omega) | omega))), hrb, hnc, by rw [YtjnojomfaikfjaaR.wr_length]; exact hcl, f2, hm, wr_one h.one (by simp [Value.oneCell'])⟩
    have X := (R3.set_ 1 (.int .i64 s')).set_ 2 (.int .i64 xs.length)
    simp only [List.set_cons_zero, List.set_cons_succ] at X
    rw [hs'.out] at X
    exact (by (repeat (first | with_reducible exact X | with_reducible apply Blk.drew | with_reducible apply Blk.drewN | with_reducible refine Blk.newAt (by simp; done) | with_reducible apply Blk.alloc | with_reducible apply Blk.set2 | with_reducible apply Blk.far)); (all_goals (first | rfl | assumption | (simp; done) | (simp; omega) | omega)))
  · exact (by (repeat (first | with_reducible exact K3 | with_reducible apply Keeps.drew | with_reducible apply Keeps.drewN | with_reducible apply Keeps.alloc | with_reducible apply Keeps.set_)); (all_goals (first | (left; simp; done) | (right; simp; done) | (right; simp; omega) | (right; omega))))
end Du
end Go.Proofs.Ytjnojomfaikfjaa
