/- link.Link: New, Next. -/
import Derived.Test.YtjnojomfaikfjaaWhole
namespace Go.Proofs.Ytjnojomfaikfjaa
set_option linter.unusedSimpArgs false
set_option linter.unusedVariables false
open Go.RowKit Go.Proofs.YtjnojomfaikfjaaW.PrintLast
theorem lnk_next (z : LA) (s : Lnk) (w : World) (h : LnkAt w z s) : Calls Try.prog 29 #[.pointer (some ⟨z.a, 0, none⟩)] w fun e w' => e = .returned (.tuple #[.int .u64 (match s.J.xs with | [] => 0 | d :: _ => d.t), .bool (!s.J.xs.isEmpty)]) ∧ Keeps [] w w' := by
  have g7 := h.blk.cell 7
  simp only [List.getElem?_cons_zero, List.getElem?_cons_succ] at g7
  have hj := h.hj
  cases hx : s.J.xs with
  | nil =>
    go_enter Try.func29, Try.ntmps29
    go_wp2_with (fail)
    refine (jbx_next_no z.j z.jr z.jp s.J w hj hx).mono ?_
    rintro e w1 ⟨rfl, hk⟩
    go_wp2
    go_ret2
    exact ⟨rfl, hk⟩
  | cons d ds =>
    go_enter Try.func29, Try.ntmps29
    go_wp2_with (fail)
    refine (jbx_next_yes z.j z.jr z.jp s.J d ds w hj hx).mono ?_
    rintro e w1 ⟨rfl, hk⟩
    go_wp2
    go_ret2
    exact ⟨rfl, hk⟩
theorem lnk_new_no (ra de ji bu : Int) (w : World) (hp : ¬ PathOk ra de ji bu) : Calls Try.prog 14 #[.agg #[.int .u64 ra, .int .u64 de, .int .u64 ji, .int .u64 bu]] w fun e w' => e = .returned (.tuple #[.pointer none, .int .i64 1]) ∧ Keeps [] w w' := by
  have hd : decide (PathOk ra de ji bu) = false := decide_eq_false hp
  have hr := link_right ra de ji bu (w.alloc (.cells #[.int .u64 ra, .int .u64 de, .int .u64 ji, .int .u64 bu] 24))
  rw [hd] at hr
  clear hp hd
  go_enter Try.func14, Try.ntmps14
  go_wp2_with (fail)
  refine hr.mono ?_
  rintro e w1 ⟨rfl, hk⟩
  go_wp2
  go_ret2
  exact ⟨rfl, ((Keeps.refl [] w).alloc _).trans hk (by simp)⟩
set_option maxHeartbeats 4000000 in
set_option maxRecDepth 100000 in
theorem lnk_new_yes (ra de ji bu : Int) (w : World) (hp : PathOk ra de ji bu) : Calls Try.prog 14 #[.agg #[.int .u64 ra, .int .u64 de, .int .u64 ji, .int .u64 bu]] w fun e w' => ∃ z : LA, e = .returned (.tuple #[.pointer (some ⟨z.a, 0, none⟩), .int .i64 0]) ∧ LnkAt w' z (Lnk.new ra de ji bu) ∧ (w.heap.size ≤ z.a ∧ w.heap.size ≤ z.b ∧ w.heap.size ≤ z.q ∧ w.heap.size ≤ z.qr ∧ w.heap.size ≤ z.qp ∧ w.heap.size ≤ z.j ∧ w.heap.size ≤ z.jr ∧ w.heap.size ≤ z.jp) ∧ Keeps [] w w' := by
  have hd : decide (PathOk ra de ji bu) = true := decide_eq_true hp
  have hr := link_right ra de ji bu (w.alloc (.cells #[.int .u64 ra, .int .u64 de, .int .u64 ji, .int .u64 bu] 24))
  rw [hd] at hr
  clear hp hd
  go_enter Try.func14, Try.ntmps14
  go_wp2_with (fail)
  refine hr.mono ?_
  rintro e w1 ⟨rfl, hk⟩
  have P := (Blk.new w 24 [.int .u64 ra, .int .u64 de, .int .u64 ji, .int .u64 bu]).keeps hk (by simp)
  have K : Keeps [] w w1 := ((Keeps.refl [] w).alloc _).trans hk (by simp)
  have hw0 := K.size
  clear hr hk
  generalize hb1 : w.heap.size = b1 at *
  go_wp2_with (fail)
  refine start_ (n := 16) (S := fun w' => Blk w' b1 24 [.int .u64 ra, .int .u64 de, .int .u64 ji, .int .u64 bu] ∧ Keeps [] w w' ∧ w'.cell? ⟨b1, 0, none⟩ = some (.int .u64 ra) ∧ w'.cell? ⟨b1, 1, none⟩ = some (.int .u64 de) ∧ w'.cell? ⟨b1, 2, none⟩ = some (.int .u64 ji) ∧ w'.cell? ⟨b1, 3, none⟩ = some (.int .u64 bu)) (ds := []) #[false, false, false, false, false, false, false, false, false, false, false, false, false, false, false, false] (by kernel_rfl) rfl rfl ⟨(Blk.drew P), (Keeps.drew K), ((Blk.cell (Blk.drew P) 0).trans rfl), ((Blk.cell (Blk.drew P) 1).trans rfl), ((Blk.cell (Blk.drew P) 2).trans rfl), ((Blk.cell (Blk.drew P) 3).trans rfl)⟩ (fun hHeld => ?_)
  refine pure_ (i := 1) (N := some 8) (v := ?_) (a' := ?_) #[false, true, false, false, false, false, false, false, false, false, false, false, false, false, false, false] rfl rfl (by kernel_rfl) (fun _ _ _ h => h) (Or.inl ⟨by rfl, ?_⟩) ?_ ?_
  rotate_left
  · intro w'
    go_simp
    with_reducible rfl
  rotate_left
  · simp only [Act.put, List.setIfInBounds_toArray, List.set_cons_zero, List.set_cons_succ, i64_w, i32_w]
    rfl
  refine pure_ (i := 4) (N := some 11) (v := ?_) (a' := ?_) #[false, true, false, false, true, false, false, false, false, false, false, false, false, false, false, false] rfl rfl (by kernel_rfl) (fun _ _ _ h => h) (Or.inl ⟨by rfl, ?_⟩) ?_ ?_
  rotate_left
  · intro w'
    go_simp
    with_reducible rfl
  rotate_left
  · simp only [Act.put, List.setIfInBounds_toArray, List.set_cons_zero, List.set_cons_succ, i64_w, i32_w]
    rfl
  refine pure_ (i := 7) (N := some 14) (v := ?_) (a' := ?_) #[false, true, false, false, true, false, false, true, false, false, false, false, false, false, false, false] rfl rfl (by kernel_rfl) (fun _ _ _ h => h) (Or.inl ⟨by rfl, ?_⟩) ?_ ?_
  rotate_left
  · intro w'
    go_simp
    with_reducible rfl
  rotate_left
  · simp only [Act.put, List.setIfInBounds_toArray, List.set_cons_zero, List.set_cons_succ, i64_w, i32_w]
    rfl
  refine pure_ (i := 9) (N := some 16) (v := ?_) (a' := ?_) #[false, true, false, false, true, false, false, true, false, true, false, false, false, false, false, false] rfl rfl (by kernel_rfl) (fun _ _ _ h => h) (Or.inl ⟨by rfl, ?_⟩) ?_ ?_
  rotate_left
  · intro w'
    go_simp
    with_reducible rfl
  rotate_left
  · simp only [Act.put, List.setIfInBounds_toArray, List.set_cons_zero, List.set_cons_succ, i64_w, i32_w]
    rfl
  refine take_ (i := 0) (N := some 7) (v := ?_) (a' := ?_) #[true, true, false, false, true, false, false, true, false, true, false, false, false, false, false, false] rfl rfl (by kernel_rfl) (fun _ _ _ h => h) (Or.inl ⟨by rfl, ?_⟩) hHeld ?_ ?_
  rotate_left
  · rintro w' ⟨s0, s1, s2, s3, s4, s5⟩
    go_simp
    with_reducible rfl
  rotate_left
  · simp only [Act.put, List.setIfInBounds_toArray, List.set_cons_zero, List.set_cons_succ, i64_w, i32_w]
    rfl
  refine take_ (i := 2) (N := some 9) (v := ?_) (a' := ?_) #[true, true, true, false, true, false, false, true, false, true, false, false, false, false, false, false] rfl rfl (by kernel_rfl) (fun _ _ _ h => h) (Or.inl ⟨by rfl, ?_⟩) hHeld ?_ ?_
  rotate_left
  · rintro w' ⟨s0, s1, s2, s3, s4, s5⟩
    go_simp
    with_reducible rfl
  rotate_left
  · simp only [Act.put, List.setIfInBounds_toArray, List.set_cons_zero, List.set_cons_succ, i64_w, i32_w]
    rfl
  refine take_ (i := 5) (N := some 12) (v := ?_) (a' := ?_) #[true, true, true, false, true, true, false, true, false, true, false, false, false, false, false, false] rfl rfl (by kernel_rfl) (fun _ _ _ h => h) (Or.inl ⟨by rfl, ?_⟩) hHeld ?_ ?_
  rotate_left
  · rintro w' ⟨s0, s1, s2, s3, s4, s5⟩
    go_simp
    with_reducible rfl
  rotate_left
  · simp only [Act.put, List.setIfInBounds_toArray, List.set_cons_zero, List.set_cons_succ, i64_w, i32_w]
    rfl
  refine take_ (i := 8) (N := some 15) (v := ?_) (a' := ?_) #[true, true, true, false, true, true, false, true, true, true, false, false, false, false, false, false] rfl rfl (by kernel_rfl) (fun _ _ _ h => h) (Or.inl ⟨by rfl, ?_⟩) hHeld ?_ ?_
  rotate_left
  · rintro w' ⟨s0, s1, s2, s3, s4, s5⟩
    go_simp
    with_reducible rfl
  rotate_left
  · simp only [Act.put, List.setIfInBounds_toArray, List.set_cons_zero, List.set_cons_succ, i64_w, i32_w]
    rfl
  refine take_ (i := 10) (N := some 17) (v := ?_) (a' := ?_) #[true, true, true, false, true, true, false, true, true, true, true, false, false, false, false, false] rfl rfl (by kernel_rfl) (fun _ _ _ h => h) (Or.inl ⟨by rfl, ?_⟩) hHeld ?_ ?_
  rotate_left
  · rintro w' ⟨s0, s1, s2, s3, s4, s5⟩
    go_simp
    with_reducible rfl
  rotate_left
  · simp only [Act.put, List.setIfInBounds_toArray, List.set_cons_zero, List.set_cons_succ, i64_w, i32_w]
    rfl
  refine one_ (i := 3) (N := some 10) #[true, true, true, true, true, true, false, true, true, true, true, false, false, false, false, false] rfl rfl (by kernel_rfl) (by decide) (fun K hK => ?_)
  refine goes_ Try.func50 (by kernel_rfl) rfl #[.int .u64 ra] (by rfl) rfl rfl (by simp only [List.map_toArray, List.map_cons, List.map_nil]; rfl) ?_
  with_reducible refine (bkt_new ra _).mono ?_
  rintro e w3 ⟨b, rfl, hb, gb, kb⟩
  refine ⟨_, rfl, ?_⟩
  refine hK.out _ _ ⟨(Blk.keeps hHeld.1 kb (List.not_mem_nil)), (Keeps.trans hHeld.2.1 kb al_nil), ((Blk.cell (Blk.keeps hHeld.1 kb (List.not_mem_nil)) 0).trans rfl), ((Blk.cell (Blk.keeps hHeld.1 kb (List.not_mem_nil)) 1).trans rfl), ((Blk.cell (Blk.keeps hHeld.1 kb (List.not_mem_nil)) 2).trans rfl), ((Blk.cell (Blk.keeps hHeld.1 kb (List.not_mem_nil)) 3).trans rfl)⟩ ?_
  clear hK K hHeld
  intro hHeld
  have hBase := hHeld
  refine norm_ (a' := ?_) ?_ ?_
  rotate_left
  · show Act.put _ (some 10) _ = _
    simp only [Act.put, List.setIfInBounds_toArray, List.set_cons_zero, List.set_cons_succ, i64_w, i32_w]
    rfl
  refine one_ (i := 6) (N := some 13) #[true, true, true, true, true, true, true, true, true, true, true, false, false, false, false, false] rfl rfl (by kernel_rfl) (by decide) (fun K hK => ?_)
  refine goes_ Try.func51 (by kernel_rfl) rfl #[.int .u64 bu] (by rfl) rfl rfl (by simp only [List.map_toArray, List.map_cons, List.map_nil]; rfl) ?_
  with_reducible refine (que_new bu _).mono ?_
  rintro e w4 ⟨q, qr, qp, rfl, hq, gq, gqr, gqp, kq⟩
  refine ⟨_, rfl, ?_⟩
  refine hK.out _ _ ⟨(Blk.keeps hHeld.1 kq (List.not_mem_nil)), (Keeps.trans hHeld.2.1 kq al_nil), ((Blk.cell (Blk.keeps hHeld.1 kq (List.not_mem_nil)) 0).trans rfl), ((Blk.cell (Blk.keeps hHeld.1 kq (List.not_mem_nil)) 1).trans rfl), ((Blk.cell (Blk.keeps hHeld.1 kq (List.not_mem_nil)) 2).trans rfl), ((Blk.cell (Blk.keeps hHeld.1 kq (List.not_mem_nil)) 3).trans rfl)⟩ ?_
  clear hK K hHeld
  intro hHeld
  clear hBase
  have hBase := hHeld
  refine norm_ (a' := ?_) ?_ ?_
  rotate_left
  · show Act.put _ (some 13) _ = _
    simp only [Act.put, List.setIfInBounds_toArray, List.set_cons_zero, List.set_cons_succ, i64_w, i32_w]
    rfl
  refine one_ (i := 11) (N := some 18) #[true, true, true, true, true, true, true, true, true, true, true, true, false, false, false, false] rfl rfl (by kernel_rfl) (by decide) (fun K hK => ?_)
  refine goes_ Try.func52 (by kernel_rfl) rfl #[.int .u64 de, .int .u64 ji] (by rfl) rfl rfl (by simp only [List.map_toArray, List.map_cons, List.map_nil]; rfl) ?_
  with_reducible refine (jbx_new de ji _).mono ?_
  rintro e w5 ⟨j, jr, jp, rfl, hj, gj, gjr, gjp, kj⟩
  refine ⟨_, rfl, ?_⟩
  refine hK.out _ _ ⟨(Blk.keeps hHeld.1 kj (List.not_mem_nil)), (Keeps.trans hHeld.2.1 kj al_nil), ((Blk.cell (Blk.keeps hHeld.1 kj (List.not_mem_nil)) 0).trans rfl), ((Blk.cell (Blk.keeps hHeld.1 kj (List.not_mem_nil)) 1).trans rfl), ((Blk.cell (Blk.keeps hHeld.1 kj (List.not_mem_nil)) 2).trans rfl), ((Blk.cell (Blk.keeps hHeld.1 kj (List.not_mem_nil)) 3).trans rfl)⟩ ?_
  clear hK K hHeld
  intro hHeld
  clear hBase
  have hBase := hHeld
  refine norm_ (a' := ?_) ?_ ?_
  rotate_left
  · show Act.put _ (some 18) _ = _
    simp only [Act.put, List.setIfInBounds_toArray, List.set_cons_zero, List.set_cons_succ, i64_w, i32_w]
    rfl
  refine pure_ (i := 12) (N := some 19) (v := ?_) (a' := ?_) #[true, true, true, true, true, true, true, true, true, true, true, true, true, false, false, false] rfl rfl (by kernel_rfl) (fun _ _ _ h => h) (Or.inl ⟨by rfl, ?_⟩) ?_ ?_
  rotate_left
  · intro w'
    go_simp
    with_reducible rfl
  rotate_left
  · simp only [Act.put, List.setIfInBounds_toArray, List.set_cons_zero, List.set_cons_succ, i64_w, i32_w]
    rfl
  refine one_ (i := 13) (N := some 20) #[true, true, true, true, true, true, true, true, true, true, true, true, true, true, false, false] rfl rfl (by kernel_rfl) (by decide) (fun K hK => ?_)
  refine value_ (w1 := ?_) (v := ?_) (by rfl) rfl ?_ ?_
  rotate_left 2
  · go_simp
    constructor
    · rfl
    · rfl
  refine hK.out _ _ ⟨(Blk.alloc hHeld.1 _), (Keeps.alloc hHeld.2.1 _), ((Blk.cell (Blk.alloc hHeld.1 _) 0).trans rfl), ((Blk.cell (Blk.alloc hHeld.1 _) 1).trans rfl), ((Blk.cell (Blk.alloc hHeld.1 _) 2).trans rfl), ((Blk.cell (Blk.alloc hHeld.1 _) 3).trans rfl)⟩ ?_
  clear hK K hHeld
  intro hHeld
  refine norm_ (a' := ?_) ?_ ?_
  rotate_left
  · show Act.put _ (some 20) _ = _
    simp only [Act.put, List.setIfInBounds_toArray, List.set_cons_zero, List.set_cons_succ, i64_w, i32_w]
    rfl
  refine pure_ (i := 14) (N := some 2) (v := ?_) (a' := ?_) #[true, true, true, true, true, true, true, true, true, true, true, true, true, true, true, false] rfl rfl (by kernel_rfl) (fun _ _ _ h => h) (Or.inl ⟨by rfl, ?_⟩) ?_ ?_
  rotate_left
  · intro w'
    go_simp
    with_reducible rfl
  rotate_left
  · simp only [Act.put, List.setIfInBounds_toArray, List.set_cons_zero, List.set_cons_succ, i64_w, i32_w]
    rfl
  refine pure_ (i := 15) (N := some 3) (v := ?_) (a' := ?_) #[true, true, true, true, true, true, true, true, true, true, true, true, true, true, true, true] rfl rfl (by kernel_rfl) (fun _ _ _ h => h) (Or.inl ⟨by rfl, ?_⟩) ?_ ?_
  rotate_left
  · intro w'
    go_simp
    with_reducible rfl
  rotate_left
  · simp only [Act.put, List.setIfInBounds_toArray, List.set_cons_zero, List.set_cons_succ, i64_w, i32_w]
    rfl
  refine done_ (by kernel_rfl) ?_
  clear hHeld P K
  obtain ⟨P, K, -, -, -, -⟩ := hBase
  have s0 := kb.size
  have s1 := kq.size
  have s2 := kj.size
  have ka : Keeps [] w5 (w5.alloc (.cells #[.int .u64 ra, .int .u64 de, .int .u64 ji, .int .u64 bu, .int .u64 0, .pointer (some ⟨b, 0, none⟩), .pointer (some ⟨q, 0, none⟩), .pointer (some ⟨j, 0, none⟩), .int .u64 0, .int .u64 0, .int .u64 0, .int .u64 0, .int .u64 0, .int .u64 0] 116)) := (Keeps.refl [] w5).alloc _
  have hfin : LnkAt _ ⟨w5.heap.size, b, q, qr, qp, j, jr, jp⟩ (Lnk.new ra de ji bu) := ⟨Blk.new w5 _ [.int .u64 ra, .int .u64 de, .int .u64 ji, .int .u64 bu, .int .u64 0, .pointer (some ⟨b, 0, none⟩), .pointer (some ⟨q, 0, none⟩), .pointer (some ⟨j, 0, none⟩), .int .u64 0, .int .u64 0, .int .u64 0, .int .u64 0, .int .u64 0, .int .u64 0], ((hb.keeps kq (by simp)).keeps kj (by simp)).keeps ka (by simp), (hq.keeps kj (by simp) (by simp) (by simp)).keeps ka (by simp) (by simp) (by simp), hj.keeps ka (by simp) (by simp) (by simp)⟩
  simp only [World.size_drew] at gb s0
  refine exit_at (fun W => LnkAt W ⟨w5.heap.size, b, q, qr, qp, j, jr, jp⟩ (Lnk.new ra de ji bu) ∧ Keeps [] w W) ⟨hfin, K.alloc _⟩ ?_
  clear P hfin ka hb hq hj kb kq kj
  rintro W ⟨hf, hk⟩
  go_wp2
  go_ret2
  exact ⟨⟨w5.heap.size, b, q, qr, qp, j, jr, jp⟩, rfl, hf, by dsimp only; omega, hk⟩
end Go.Proofs.Ytjnojomfaikfjaa
