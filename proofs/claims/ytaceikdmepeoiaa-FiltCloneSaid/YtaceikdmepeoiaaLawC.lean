/- goitlaw05.FiltClone: the walk. -/
import Derived.Test.YtaceikdmepeoiaaLawB
namespace Go.Proofs.Ytaceikdmepeoiaa
set_option linter.unusedSimpArgs false
set_option linter.unusedVariables false
open Go.RowKit Go.Proofs.YtaceikdmepeoiaaW.PrintLast
theorem exec_append {P : Program} {ev : Operand → Value} {o : Oper} {s x : Operand} {t ty : TypeId} {w w' : World} {vs vx v' : Value} (ho : o.op = .call { callee := .builtin .append, args := #[s, x], argTypes := #[t, t] }) (ht : o.type = ty) (hs : ev s = vs) (hx : ev x = vx) (hr : (Builtin.append_ #[t, t] ty #[vs, vx]).run P w = .ok v' w') : (execOp ev o).run P w = .ok (.value v') w' := by
  unfold execOp
  simp only [ho, ht, resolve, invoke, builtin, Sem.run_bind, Sem.run_pure, Result.andThen_ok, List.map_toArray, List.map_cons, List.map_nil, hs, hx, hr]
set_option maxHeartbeats 4000000 in
set_option maxRecDepth 100000 in
theorem filtClone_calls (W : Int) (uW : U64 W) (A1 A2 : Option Addr) (n1 c1 n2 c2 : Nat) (w : World) (m1 : n1 ≤ maxLen) (m2 : n2 ≤ maxLen) (x1 : n1 ≤ 150 → ∃ l, l.length = n1 ∧ ActsAt w A1 l) (x2 : n2 ≤ 150 → ∃ l, l.length = n2 ∧ ActsAt w A2 l) :
    Calls Try.prog 3 #[.int .u64 W, .slice A1 n1 c1, .slice A2 n2 c2] w fun e w' => e = .returned (.bool true) ∧ Below w.heap.size w w' := by
  unfold maxLen at m1 m2
  by_cases d1 : 150 < n1
  · have d1' : (150 : Int) < n1 := by omega
    clear x1 x2
    go_enter Try.func3, Try.ntmps3
    go_wp2_with (fail)
    refine (alive_calls _).mono ?_
    rintro e w1 ⟨rfl, K⟩
    go_wp2
    go_ret
    exact ⟨rfl, K.below (Nat.le_refl _) (by simp)⟩
  by_cases d2 : 150 < n2
  · have d1' : (n1 : Int) ≤ 150 := by omega
    have d2' : (150 : Int) < n2 := by omega
    clear x1 x2 d1
    go_enter Try.func3, Try.ntmps3
    go_wp2_with (fail)
    refine (alive_calls _).mono ?_
    rintro e w1 ⟨rfl, K⟩
    go_wp2
    go_ret
    exact ⟨rfl, K.below (Nat.le_refl _) (by simp)⟩
  obtain ⟨l1, hl1, a1⟩ := x1 (by omega)
  obtain ⟨l2, hl2, a2⟩ := x2 (by omega)
  clear x1 x2
  subst hl1 hl2
  have d1' : (l1.length : Int) ≤ 150 := by omega
  have d2' : (l2.length : Int) ≤ 150 := by omega
  go_enter Try.func3, Try.ntmps3
  go_wp2_with (fail)
  refine (of_calls W (W.tmod 2 == 1) _).mono ?_
  rintro e w1 ⟨f, r, pb, rfl, F1, z1, z2, z3, k1⟩
  have B0 := Blk.new w1 30 [.int .u64 W, .bool (W.tmod 2 == 1), .int .u64 0, .slice none 0 0]
  have L0 := Link.start W (W.tmod 2 == 1) uW
  go_wp2_with (fail)
  have P0 : Pair w.heap.size (w1.alloc (.cells #[.int .u64 W, .bool (W.tmod 2 == 1), .int .u64 0, .slice none 0 0] 30)) f r pb w1.heap.size (.slice none 0 0) ⟨W, 0, W.tmod 2 == 1, []⟩ ⟨W, 0, W.tmod 2 == 1, []⟩ :=
    ⟨F1.keeps ((Keeps.refl [] w1).alloc _) (by simp) (by simp) (by simp), ⟨B0, World.ownsRow_nil _ 0 _ 2⟩, L0, z1, z2, z3, k1.size, by simp [Value.ownBlock]⟩
  have K0 : Keeps [] w (w1.alloc (.cells #[.int .u64 W, .bool (W.tmod 2 == 1), .int .u64 0, .slice none 0 0] 30)) := k1.alloc _
  have hm : w1.heap.size = w1.heap.size := rfl
  generalize w1.heap.size = m at *
  clear B0 L0 F1 z1 z2 z3 hm
  go_loopw [9] (fun i wr => ∃ k : Nat, k ≤ l1.length ∧ i = .int .i64 k ∧ Keeps [] w wr ∧ ∃ pb v s q, Pair w.heap.size wr f r pb m v s q ∧ q.L.length ≤ k ∧ q.W = W) (fun i _ => l1.length - (intOf i).toNat)
  case atStart => exact ⟨0, Nat.zero_le _, rfl, K0, pb, _, _, _, P0, by simp, rfl⟩
  case round =>
    obtain ⟨k, hk, rfl, K, pb, v, s, q, P1, hq, hqW⟩ := hrel
    clear P0 K0
    by_cases hlt : k < l1.length
    · have hlt' : (k : Int) < l1.length := by omega
      obtain ⟨a, rfl, y0, y1, y2⟩ := (a1.keeps K).at_ k hlt
      have ua := a1.u _ (List.getElem_mem hlt)
      go_wp2_with (fail)
      refine (act_calls wr P1 K.size (by omega) l1[k].p l1[k].t l1[k].x ua).mono ?_
      rintro e w3 ⟨rfl, ⟨pb', v', s', q', P3, hq3, hw3⟩, b3⟩
      go_wp2_with (fail)
      go_roundw
      case rel => exact ⟨k + 1, by omega, by go_num, keeps_below K b3, pb', v', s', q', P3, by omega, hw3.trans hqW⟩
      case measure => simp [intOf]; omega
    · obtain rfl : k = l1.length := by omega
      go_wp2_with (fail)
      refine (fclone f r pb s wr P1.F).mono ?_
      rintro e w2 ⟨f', r', pb', rfl, F2, z1, z2, z3, k2⟩
      have P2 := P1.keeps0 k2
      have K2 := K.trans k2 (by simp)
      have g1 := P2.R.c1
      have g2 := P2.R.c2
      have hwr : wr.heap.size ≤ w2.heap.size := k2.size
      go_wp2_with (fail)
      refine start_ (n := 12) (S := fun w' => w'.cell? ⟨m, 1, none⟩ = some (.bool q.least) ∧ w'.cell? ⟨m, 2, none⟩ = some (.int .u64 q.now)) (ds := [10]) #[false, false, false, false, false, false, false, false, false, false, false, false] (by kernel_rfl) rfl rfl ⟨g1, g2⟩ (fun hHeld => ?_)
      refine pure_ (i := 0) (N := some 53) (v := ?_) (a' := ?_) #[true, false, false, false, false, false, false, false, false, false, false, false] rfl rfl (by kernel_rfl) (fun _ _ _ h => h) (Or.inl ⟨by rfl, ?_⟩) ?_ ?_
      rotate_left
      · intro w'
        go_simp
        with_reducible rfl
      rotate_left
      · simp only [Act.put, List.setIfInBounds_toArray, List.set_cons_zero, List.set_cons_succ, i64_w, i32_w]
        rfl
      refine pure_ (i := 1) (N := some 54) (v := ?_) (a' := ?_) #[true, true, false, false, false, false, false, false, false, false, false, false] rfl rfl (by kernel_rfl) (fun _ _ _ h => h) (Or.inl ⟨by rfl, ?_⟩) ?_ ?_
      rotate_left
      · intro w'
        go_simp
        with_reducible rfl
      rotate_left
      · simp only [Act.put, List.setIfInBounds_toArray, List.set_cons_zero, List.set_cons_succ, i64_w, i32_w]
        rfl
      refine pure_ (i := 2) (N := some 55) (v := ?_) (a' := ?_) #[true, true, true, false, false, false, false, false, false, false, false, false] rfl rfl (by kernel_rfl) (fun _ _ _ h => h) (Or.inl ⟨by rfl, ?_⟩) ?_ ?_
      rotate_left
      · intro w'
        go_simp
        with_reducible rfl
      rotate_left
      · simp only [Act.put, List.setIfInBounds_toArray, List.set_cons_zero, List.set_cons_succ, i64_w, i32_w]
        rfl
      refine pure_ (i := 3) (N := some 56) (v := ?_) (a' := ?_) #[true, true, true, true, false, false, false, false, false, false, false, false] rfl rfl (by kernel_rfl) (fun _ _ _ h => h) (Or.inl ⟨by rfl, ?_⟩) ?_ ?_
      rotate_left
      · intro w'
        go_simp
        with_reducible rfl
      rotate_left
      · simp only [Act.put, List.setIfInBounds_toArray, List.set_cons_zero, List.set_cons_succ, i64_w, i32_w]
        rfl
      refine pure_ (i := 5) (N := some 58) (v := ?_) (a' := ?_) #[true, true, true, true, false, true, false, false, false, false, false, false] rfl rfl (by kernel_rfl) (fun _ _ _ h => h) (Or.inl ⟨by rfl, ?_⟩) ?_ ?_
      rotate_left
      · intro w'
        go_simp
        with_reducible rfl
      rotate_left
      · simp only [Act.put, List.setIfInBounds_toArray, List.set_cons_zero, List.set_cons_succ, i64_w, i32_w]
        rfl
      refine pure_ (i := 6) (N := some 59) (v := ?_) (a' := ?_) #[true, true, true, true, false, true, true, false, false, false, false, false] rfl rfl (by kernel_rfl) (fun _ _ _ h => h) (Or.inl ⟨by rfl, ?_⟩) ?_ ?_
      rotate_left
      · intro w'
        go_simp
        with_reducible rfl
      rotate_left
      · simp only [Act.put, List.setIfInBounds_toArray, List.set_cons_zero, List.set_cons_succ, i64_w, i32_w]
        rfl
      refine pure_ (i := 7) (N := some 60) (v := ?_) (a' := ?_) #[true, true, true, true, false, true, true, true, false, false, false, false] rfl rfl (by kernel_rfl) (fun _ _ _ h => h) (Or.inl ⟨by rfl, ?_⟩) ?_ ?_
      rotate_left
      · intro w'
        go_simp
        with_reducible rfl
      rotate_left
      · simp only [Act.put, List.setIfInBounds_toArray, List.set_cons_zero, List.set_cons_succ, i64_w, i32_w]
        rfl
      refine take_ (i := 4) (N := some 57) (v := ?_) (a' := ?_) #[true, true, true, true, true, true, true, true, false, false, false, false] rfl rfl (by kernel_rfl) (fun _ _ _ h => h) (Or.inl ⟨by rfl, ?_⟩) hHeld ?_ ?_
      rotate_left
      · rintro w' ⟨s0, s1⟩
        go_simp
        with_reducible rfl
      rotate_left
      · simp only [Act.put, List.setIfInBounds_toArray, List.set_cons_zero, List.set_cons_succ, i64_w, i32_w]
        rfl
      refine take_ (i := 8) (N := some 61) (v := ?_) (a' := ?_) #[true, true, true, true, true, true, true, true, true, false, false, false] rfl rfl (by kernel_rfl) (fun _ _ _ h => h) (Or.inl ⟨by rfl, ?_⟩) hHeld ?_ ?_
      rotate_left
      · rintro w' ⟨s0, s1⟩
        go_simp
        with_reducible rfl
      rotate_left
      · simp only [Act.put, List.setIfInBounds_toArray, List.set_cons_zero, List.set_cons_succ, i64_w, i32_w]
        rfl
      refine pure_ (i := 9) (N := some 62) (v := ?_) (a' := ?_) #[true, true, true, true, true, true, true, true, true, true, false, false] rfl rfl (by kernel_rfl) (fun _ _ _ h => h) (Or.inl ⟨by rfl, ?_⟩) ?_ ?_
      rotate_left
      · intro w'
        go_simp
        with_reducible rfl
      rotate_left
      · simp only [Act.put, List.setIfInBounds_toArray, List.set_cons_zero, List.set_cons_succ, i64_w, i32_w]
        rfl
      refine last_ (i := 10) (N := some 63) #[true, true, true, true, true, true, true, true, true, true, true, false] rfl rfl (by kernel_rfl) (by decide) (fun K hK => ?_)
      refine value_ (w1 := ?_) (v := ?_) (by rfl) rfl ?_ ?_
      rotate_left 2
      · go_simp
        constructor
        · rfl
        · rfl
      refine hK.out _ _ ?_
      clear hK K
      refine norm_ (a' := ?_) ?_ ?_
      rotate_left
      · show Act.put _ (some 63) _ = _
        simp only [Act.put, List.setIfInBounds_toArray, List.set_cons_zero, List.set_cons_succ, i64_w, i32_w]
        rfl
      refine pure_ (i := 11) (N := some 11) (v := ?_) (a' := ?_) #[true, true, true, true, true, true, true, true, true, true, true, true] rfl rfl (by kernel_rfl) (fun _ _ _ h => h) (Or.inl ⟨by rfl, ?_⟩) ?_ ?_
      rotate_left
      · intro w'
        go_simp
        with_reducible rfl
      rotate_left
      · simp only [Act.put, List.setIfInBounds_toArray, List.set_cons_zero, List.set_cons_succ, i64_w, i32_w]
        rfl
      refine done_ (by kernel_rfl) ?_
      go_wp2_with (fail)
      refine wp_at (fun Wd => Blk Wd w2.heap.size 30 [.int .u64 W, .bool q.least, .int .u64 q.now, .slice none 0 0] ∧ Keeps [] w2 Wd) ?_ ?_
      · exact ⟨Blk.new w2.drew _ [.int .u64 W, .bool q.least, .int .u64 q.now, .slice none 0 0], ((Keeps.refl [] w2).drew).alloc _⟩
      rintro w3 ⟨B3, k3⟩
      have P3 := P2.keeps0 k3
      have F3 := F2.keeps k3 (by simp) (by simp) (by simp)
      have K3 := K2.trans k3 (by simp)
      have g3 := P3.R.c3
      have n3 := B3.cell 3
      simp only [List.getElem?_cons_zero, List.getElem?_cons_succ] at n3
      have hone : ∀ u ∈ q.L.flatMap Rdg.cells, u.oneCell' = true := by
        intro u hu; simp only [List.mem_flatMap, Rdg.cells] at hu
        obtain ⟨_, _, hu⟩ := hu
        simp at hu; rcases hu with rfl | rfl <;> rfl
      obtain ⟨v9, w9, hr9, ho9, k9, hb9⟩ := append_row w3.drew 28 P3.drew.R.row hone (by omega)
      obtain ⟨A9, c9, rfl⟩ : ∃ A9 c9, v9 = .slice A9 q.L.length c9 := by
        rcases own_form ho9 with ⟨h0, h1, _⟩ | ⟨g, cap, cur, h0, _⟩
        · exact ⟨none, 0, by rw [h0, h1]⟩
        · exact ⟨_, _, h0⟩
      have hr9' : Hid ((Builtin.append_ #[28, 28] 28 #[.slice none 0 0, v]).run Try.prog w3.drew = .ok (.slice A9 q.L.length c9) w9) := hr9
      have hlt2 : w2.heap.size < w3.heap.size := B3.lt
      generalize hnb : w2.heap.size = nb at *
      have z9 : w9.frozen? ⟨nb, 3, none⟩ = false := (k9.frozen (p := ⟨nb, 3, none⟩) hlt2 (by simp)).trans (B3.drew.frozen 3)
      clear g1 g2 hr9
      refine start_ (n := 13) (S := fun w' => w'.cell? ⟨nb, 3, none⟩ = some (.slice none 0 0) ∧ w'.cell? ⟨m, 3, none⟩ = some v) (ds := [12]) #[false, false, false, false, false, false, false, false, false, false, false, false, false] (by kernel_rfl) rfl rfl ⟨n3, g3⟩ (fun hHeld => ?_)
      refine pure_ (i := 0) (N := some 64) (v := ?_) (a' := ?_) #[true, false, false, false, false, false, false, false, false, false, false, false, false] rfl rfl (by kernel_rfl) (fun _ _ _ h => h) (Or.inl ⟨by rfl, ?_⟩) ?_ ?_
      rotate_left
      · intro w'
        go_simp
        with_reducible rfl
      rotate_left
      · simp only [Act.put, List.setIfInBounds_toArray, List.set_cons_zero, List.set_cons_succ, i64_w, i32_w]
        rfl
      refine pure_ (i := 1) (N := some 65) (v := ?_) (a' := ?_) #[true, true, false, false, false, false, false, false, false, false, false, false, false] rfl rfl (by kernel_rfl) (fun _ _ _ h => h) (Or.inl ⟨by rfl, ?_⟩) ?_ ?_
      rotate_left
      · intro w'
        go_simp
        with_reducible rfl
      rotate_left
      · simp only [Act.put, List.setIfInBounds_toArray, List.set_cons_zero, List.set_cons_succ, i64_w, i32_w]
        rfl
      refine pure_ (i := 2) (N := some 66) (v := ?_) (a' := ?_) #[true, true, true, false, false, false, false, false, false, false, false, false, false] rfl rfl (by kernel_rfl) (fun _ _ _ h => h) (Or.inl ⟨by rfl, ?_⟩) ?_ ?_
      rotate_left
      · intro w'
        go_simp
        with_reducible rfl
      rotate_left
      · simp only [Act.put, List.setIfInBounds_toArray, List.set_cons_zero, List.set_cons_succ, i64_w, i32_w]
        rfl
      refine pure_ (i := 3) (N := some 67) (v := ?_) (a' := ?_) #[true, true, true, true, false, false, false, false, false, false, false, false, false] rfl rfl (by kernel_rfl) (fun _ _ _ h => h) (Or.inl ⟨by rfl, ?_⟩) ?_ ?_
      rotate_left
      · intro w'
        go_simp
        with_reducible rfl
      rotate_left
      · simp only [Act.put, List.setIfInBounds_toArray, List.set_cons_zero, List.set_cons_succ, i64_w, i32_w]
        rfl
      refine pure_ (i := 5) (N := some 69) (v := ?_) (a' := ?_) #[true, true, true, true, false, true, false, false, false, false, false, false, false] rfl rfl (by kernel_rfl) (fun _ _ _ h => h) (Or.inl ⟨by rfl, ?_⟩) ?_ ?_
      rotate_left
      · intro w'
        go_simp
        with_reducible rfl
      rotate_left
      · simp only [Act.put, List.setIfInBounds_toArray, List.set_cons_zero, List.set_cons_succ, i64_w, i32_w]
        rfl
      refine pure_ (i := 6) (N := some 70) (v := ?_) (a' := ?_) #[true, true, true, true, false, true, true, false, false, false, false, false, false] rfl rfl (by kernel_rfl) (fun _ _ _ h => h) (Or.inl ⟨by rfl, ?_⟩) ?_ ?_
      rotate_left
      · intro w'
        go_simp
        with_reducible rfl
      rotate_left
      · simp only [Act.put, List.setIfInBounds_toArray, List.set_cons_zero, List.set_cons_succ, i64_w, i32_w]
        rfl
      refine pure_ (i := 7) (N := some 71) (v := ?_) (a' := ?_) #[true, true, true, true, false, true, true, true, false, false, false, false, false] rfl rfl (by kernel_rfl) (fun _ _ _ h => h) (Or.inl ⟨by rfl, ?_⟩) ?_ ?_
      rotate_left
      · intro w'
        go_simp
        with_reducible rfl
      rotate_left
      · simp only [Act.put, List.setIfInBounds_toArray, List.set_cons_zero, List.set_cons_succ, i64_w, i32_w]
        rfl
      refine take_ (i := 4) (N := some 68) (v := ?_) (a' := ?_) #[true, true, true, true, true, true, true, true, false, false, false, false, false] rfl rfl (by kernel_rfl) (fun _ _ _ h => h) (Or.inl ⟨by rfl, ?_⟩) hHeld ?_ ?_
      rotate_left
      · rintro w' ⟨s0, s1⟩
        go_simp
        with_reducible rfl
      rotate_left
      · simp only [Act.put, List.setIfInBounds_toArray, List.set_cons_zero, List.set_cons_succ, i64_w, i32_w]
        rfl
      refine take_ (i := 8) (N := some 72) (v := ?_) (a' := ?_) #[true, true, true, true, true, true, true, true, true, false, false, false, false] rfl rfl (by kernel_rfl) (fun _ _ _ h => h) (Or.inl ⟨by rfl, ?_⟩) hHeld ?_ ?_
      rotate_left
      · rintro w' ⟨s0, s1⟩
        go_simp
        with_reducible rfl
      rotate_left
      · simp only [Act.put, List.setIfInBounds_toArray, List.set_cons_zero, List.set_cons_succ, i64_w, i32_w]
        rfl
      refine one_ (i := 9) (N := some 73) #[true, true, true, true, true, true, true, true, true, true, false, false, false] rfl rfl (by kernel_rfl) (by decide) (fun K hK => ?_)
      refine value_ (w1 := w9) (v := .slice A9 q.L.length c9) (by rfl) rfl ?_ ?_
      · exact exec_append rfl rfl rfl rfl hr9'.out
      refine hK.out _ _ ⟨((k9.cell (p := ⟨nb, 3, none⟩) (World.block_lt_of_cell? _ _ hHeld.1) (by simp)).trans hHeld.1), ((k9.cell (p := ⟨m, 3, none⟩) (World.block_lt_of_cell? _ _ hHeld.2) (by simp)).trans hHeld.2)⟩ (fun hHeld => ?_)
      clear hK K
      refine norm_ (a' := ?_) ?_ ?_
      rotate_left
      · show Act.put _ (some 73) _ = _
        simp only [Act.put, List.setIfInBounds_toArray, List.set_cons_zero, List.set_cons_succ, i64_w, i32_w]
        rfl
      refine pure_ (i := 10) (N := some 74) (v := ?_) (a' := ?_) #[true, true, true, true, true, true, true, true, true, true, true, false, false] rfl rfl (by kernel_rfl) (fun _ _ _ h => h) (Or.inl ⟨by rfl, ?_⟩) ?_ ?_
      rotate_left
      · intro w'
        go_simp
        with_reducible rfl
      rotate_left
      · simp only [Act.put, List.setIfInBounds_toArray, List.set_cons_zero, List.set_cons_succ, i64_w, i32_w]
        rfl
      refine pure_ (i := 11) (N := some 75) (v := ?_) (a' := ?_) #[true, true, true, true, true, true, true, true, true, true, true, true, false] rfl rfl (by kernel_rfl) (fun _ _ _ h => h) (Or.inl ⟨by rfl, ?_⟩) ?_ ?_
      rotate_left
      · intro w'
        go_simp
        with_reducible rfl
      rotate_left
      · simp only [Act.put, List.setIfInBounds_toArray, List.set_cons_zero, List.set_cons_succ, i64_w, i32_w]
        rfl
      refine last_ (i := 12) (N := none) #[true, true, true, true, true, true, true, true, true, true, true, true, true] rfl rfl (by kernel_rfl) (by decide) (fun K hK => ?_)
      refine skip_ (w1 := ?_) (by rfl) rfl ?_ ?_
      rotate_left
      · go_simp
        rfl
      refine hK.out _ _ ?_
      clear hK K
      refine done_ (by kernel_rfl) ?_
      go_wp2_with (fail)
      have kk9 : Keeps [] wr w9 := ((k2.trans k3 (by simp)).drew).trans k9 (by simp)
      have kset : Keeps [nb] w9 (w9.setCell ⟨nb, 3, none⟩ (.slice A9 q.L.length c9)) := (Keeps.refl _ _).set_ (.inl (by simp)) _
      have kL : Keeps [] wr (w9.setCell ⟨nb, 3, none⟩ (.slice A9 q.L.length c9)) := kk9.set_ (.inr hwr) _
      have R3n : RefAt w3 nb (.slice none 0 0) ⟨W, q.now, q.least, []⟩ := ⟨B3, World.ownsRow_nil _ 0 _ 2⟩
      have hsep := sep_m F3 R3n
      have F9 := (F3.keeps ((Keeps.refl [] w3).drew) (by simp) (by simp) (by simp)).keeps k9 (by simp) (by simp) (by simp)
      have FL := F9.keeps kset (fun hh => hsep (by simp at hh; simp [hh])) (fun hh => hsep (by simp at hh; simp [hh])) (fun hh => hsep (by simp at hh; simp [hh]))
      have B9 := (B3.drew).keeps k9 (by simp)
      have BL : Blk (w9.setCell ⟨nb, 3, none⟩ (.slice A9 q.L.length c9)) nb 30 [.int .u64 W, .bool q.least, .int .u64 q.now, .slice A9 q.L.length c9] := B9.set_ 3 _
      have hlt3 : nb < w3.drew.heap.size := hlt2
      have RL : RefAt (w9.setCell ⟨nb, 3, none⟩ (.slice A9 q.L.length c9)) nb (.slice A9 q.L.length c9) ⟨W, q.now, q.least, q.L⟩ := ⟨BL, own_keeps ho9 kset (by intro b hb; have := hb9 b hb; simp; omega)⟩
      have PL : Pair wr.heap.size (w9.setCell ⟨nb, 3, none⟩ (.slice A9 q.L.length c9)) f' r' pb' nb (.slice A9 q.L.length c9) s ⟨W, q.now, q.least, q.L⟩ := by
        refine ⟨FL, RL, ⟨hqW.symm.trans P1.L.hW, P1.L.hnow, P1.L.hleast, P1.L.rel, P1.L.uW, P1.L.un, P1.L.uL⟩, z1, z2, z3, hwr, ?_⟩
        intro b hb
        have h1 := hb9 b hb
        omega
      have hwl : w.heap.size ≤ wr.heap.size := K.size
      generalize w9.setCell ⟨nb, 3, none⟩ (.slice A9 q.L.length c9) = wL at *
      have a2' := a2.keeps K
      clear FL RL BL B9 F9 hsep R3n kset kk9 z9 hr9' hb9 k9 ho9 hone n3 g3 K3 F3 P3 B3 k3 K2 P2 F2 k2 a1 a2
      go_loopw [12] (fun i wx => ∃ k : Nat, k ≤ l2.length ∧ i = .int .i64 k ∧ Keeps [] wr wx ∧ ∃ pb2 v2 s2 q2, Pair wr.heap.size wx f' r' pb2 nb v2 s2 q2 ∧ q2.L.length ≤ 150 + k) (fun i _ => l2.length - (intOf i).toNat)
      case atStart => exact ⟨0, Nat.zero_le _, rfl, kL, pb', _, _, _, PL, by show q.L.length ≤ _; omega⟩
      case round =>
        obtain ⟨k, hk2, rfl, kx, pb2, v2, s2, q2, Px, hqx⟩ := hrel
        clear PL kL
        by_cases hlt4 : k < l2.length
        · have hlt' : (k : Int) < l2.length := by omega
          obtain ⟨a, rfl, y0, y1, y2⟩ := (a2'.keeps kx).at_ k hlt4
          have ua := a2'.u _ (List.getElem_mem hlt4)
          go_wp2_with (fail)
          refine (act_calls wr Px kx.size (by omega) l2[k].p l2[k].t l2[k].x ua).mono ?_
          rintro e w3 ⟨rfl, ⟨pb3, v3, s3, q3, P3, hq3, _⟩, b3⟩
          have kx3 := keeps_below kx b3
          go_wp2_with (fail)
          refine (same_calls w3 P3 (by omega)).mono ?_
          rintro e w4 ⟨rfl, k4⟩
          have kx4 := kx3.trans k4 (by simp)
          have P4 := P3.keeps0 k4
          go_wp2_with (fail)
          refine (same_calls w4 (P1.keeps0 kx4) (by omega)).mono ?_
          rintro e w5 ⟨rfl, k5⟩
          have kx5 := kx4.trans k5 (by simp)
          have P5 := P4.keeps0 k5
          go_wp2_with (fail)
          go_roundw
          case rel => exact ⟨k + 1, by omega, by go_num, kx5, pb3, v3, s3, q3, P5, by omega⟩
          case measure => simp [intOf]; omega
        · obtain rfl : k = l2.length := by omega
          have KX := K.trans kx (by simp)
          clear Px P1 kx a2'
          go_wp2_with (fail)
          refine (best_nil _).mono ?_
          rintro e w3 ⟨rfl, rfl⟩
          go_wp2_with (fail)
          refine (alive_calls _).mono ?_
          rintro e w4 ⟨rfl, k4⟩
          have K4 := KX.trans k4 (by simp)
          go_wp2_with (fail)
          refine (to_nil 0 _).mono ?_
          rintro e w5 ⟨rfl, rfl⟩
          go_wp2_with (fail)
          refine (put_nil 0 0 _).mono ?_
          rintro e w5 ⟨rfl, rfl⟩
          go_wp2_with (fail)
          refine (time_nil _).mono ?_
          rintro e w5 ⟨rfl, rfl⟩
          go_wp2_with (fail)
          refine (fclone_nil _).mono ?_
          rintro e w5 ⟨rfl, rfl⟩
          go_wp2
          go_ret
          exact ⟨rfl, K4.below (Nat.le_refl _) (by simp)⟩
end Go.Proofs.Ytaceikdmepeoiaa
