/- bucket.Bucket: what it is in memory; New, To, Take, Waste, Tokens, Wasted. -/
import Derived.Test.YtjnojomfaikfjaaFixC
import Derived.Test.YtjnojomfaikfjaaFixB
import Derived.Test.YtjnojomfaikfjaaLinkP
namespace Go.Proofs.Ytjnojomfaikfjaa
set_option linter.unusedSimpArgs false
set_option linter.unusedVariables false
open Go.RowKit Go.Proofs.YtjnojomfaikfjaaW.PrintLast
def BktAt (w : World) (b : Nat) (s : Bkt) : Prop := Blk w b 158 [.int .u64 s.tok, .int .u64 s.was, .int .u64 s.rate, .int .u64 s.now]
structure Bkt.ok (s : Bkt) : Prop where
  tok : U64 s.tok
  was : U64 s.was
  rate : U64 s.rate
  now : U64 s.now
section
variable {w w' : World} {b : Nat} {s : Bkt} {bs : List Nat}
theorem BktAt.keeps (h : BktAt w b s) (k : Keeps bs w w') (hb : b ∉ bs) : BktAt w' b s := Blk.keeps h k hb
theorem BktAt.c0 (h : BktAt w b s) : w.cell? ⟨b, 0, none⟩ = some (.int .u64 s.tok) := (Blk.cell h 0).trans rfl
theorem BktAt.c1 (h : BktAt w b s) : w.cell? ⟨b, 1, none⟩ = some (.int .u64 s.was) := (Blk.cell h 1).trans rfl
theorem BktAt.c2 (h : BktAt w b s) : w.cell? ⟨b, 2, none⟩ = some (.int .u64 s.rate) := (Blk.cell h 2).trans rfl
theorem BktAt.c3 (h : BktAt w b s) : w.cell? ⟨b, 3, none⟩ = some (.int .u64 s.now) := (Blk.cell h 3).trans rfl
theorem BktAt.fz (h : BktAt w b s) (i : Nat) : w.frozen? ⟨b, i, none⟩ = false := Blk.frozen h i
theorem BktAt.lt (h : BktAt w b s) : b < w.heap.size := Blk.lt h
end
theorem u64sub (a b : Int) (ha : U64 a) (hb : U64 b) (h : b ≤ a) : IntKind.u64.wrap (a - b) = a - b := by
  obtain ⟨h0, h1⟩ := ha
  obtain ⟨h2, h3⟩ := hb
  simp [IntKind.wrap, IntKind.signed, IntKind.bits]; omega
theorem bkt_new (rate : Int) (w : World) : Calls Try.prog 50 #[.int .u64 rate] w fun e w' => ∃ b, e = .returned (.pointer (some ⟨b, 0, none⟩)) ∧ BktAt w' b ⟨0, 0, rate, 0⟩ ∧ w.heap.size ≤ b ∧ Keeps [] w w' := by
  go_enter Try.func50, Try.ntmps50
  go_wp2
  go_ret
  exact ⟨w.heap.size, rfl, Blk.new w _ [.int .u64 0, .int .u64 0, .int .u64 rate, .int .u64 0], Nat.le_refl _, (Keeps.refl [] w).alloc _⟩
theorem bkt_tokens (b : Nat) (s : Bkt) (w : World) (h : BktAt w b s) : Calls Try.prog 70 #[.pointer (some ⟨b, 0, none⟩)] w fun e w' => e = .returned (.int .u64 s.tok) ∧ w' = w := by
  have g0 := h.c0
  go_enter Try.func70, Try.ntmps70
  go_wp2
  go_ret
  exact ⟨rfl, rfl⟩
theorem bkt_wasted (b : Nat) (s : Bkt) (w : World) (h : BktAt w b s) : Calls Try.prog 71 #[.pointer (some ⟨b, 0, none⟩)] w fun e w' => e = .returned (.int .u64 s.was) ∧ w' = w := by
  have g1 := h.c1
  go_enter Try.func71, Try.ntmps71
  go_wp2
  go_ret
  exact ⟨rfl, rfl⟩
theorem bkt_to_off (b : Nat) (s : Bkt) (t : Int) (w : World) (h : BktAt w b s) (ht : t ≤ s.now) : Calls Try.prog 53 #[.pointer (some ⟨b, 0, none⟩), .int .u64 t] w fun e w' => e = .returned (.tuple #[]) ∧ w' = w := by
  have g3 := h.c3
  go_enter Try.func53, Try.ntmps53
  go_wp2
  (try simp only [Exit.inBlock, Exit.then])
  refine bodyPost_ret (results_none rfl _ _ _) rfl ?_
  exact ⟨rfl, rfl⟩
set_option maxHeartbeats 2000000 in
set_option maxRecDepth 100000 in
theorem bkt_to_on (b : Nat) (s : Bkt) (t : Int) (w : World) (h : BktAt w b s) (ok : s.ok) (ht : s.now < t) (ut : U64 t) : Calls Try.prog 53 #[.pointer (some ⟨b, 0, none⟩), .int .u64 t] w fun e w' => e = .returned (.tuple #[]) ∧ BktAt w' b ⟨sat (s.tok + sat (s.rate * (t - s.now))), s.was, s.rate, t⟩ ∧ Keeps [b] w w' := by
  obtain ⟨tok, was, rate, now⟩ := s
  obtain ⟨utok, uwas, urate, unow⟩ := ok
  dsimp only at *
  have g0 := h.c0
  have g2 := h.c2
  have g3 := h.c3
  have hl := h.lt
  have f0 := h.fz 0
  have f3 := h.fz 3
  dsimp only at g0 g2 g3
  have k1 := u64sub t now ut unow (by omega)
  have ud : U64 (t - now) := by obtain ⟨_, _⟩ := ut; obtain ⟨_, _⟩ := unow; exact ⟨by omega, by omega⟩
  have hm := fun w => fix_mul rate (t - now) w urate ud
  have up : 0 ≤ rate * (t - now) := Int.mul_nonneg urate.1 ud.1
  have us := sat_u up
  generalize sat (rate * (t - now)) = m at *
  clear up ud urate unow
  generalize hd : t - now = d at *
  go_enter Try.func53, Try.ntmps53
  go_wp2_with (fail)
  refine start_ (n := 23) (S := fun w' => w'.cell? ⟨b, 0, none⟩ = some (.int .u64 tok) ∧ w'.cell? ⟨b, 2, none⟩ = some (.int .u64 rate) ∧ w'.cell? ⟨b, 3, none⟩ = some (.int .u64 now)) (ds := [22]) #[false, false, false, false, false, false, false, false, false, false, false, false, false, false, false, false, false, false, false, false, false, false, false] (by kernel_rfl) rfl rfl ⟨g0, g2, g3⟩ (fun hHeld => ?_)
  refine pure_ (i := 0) (N := some 14) (v := ?_) (a' := ?_) #[true, false, false, false, false, false, false, false, false, false, false, false, false, false, false, false, false, false, false, false, false, false, false] rfl rfl (by kernel_rfl) (fun _ _ _ h => h) (Or.inl ⟨by rfl, ?_⟩) ?_ ?_
  rotate_left
  · intro w'
    go_simp
    with_reducible rfl
  rotate_left
  · simp only [Act.put, List.setIfInBounds_toArray, List.set_cons_zero, List.set_cons_succ, i64_w, i32_w]
    rfl
  refine pure_ (i := 1) (N := some 15) (v := ?_) (a' := ?_) #[true, true, false, false, false, false, false, false, false, false, false, false, false, false, false, false, false, false, false, false, false, false, false] rfl rfl (by kernel_rfl) (fun _ _ _ h => h) (Or.inl ⟨by rfl, ?_⟩) ?_ ?_
  rotate_left
  · intro w'
    go_simp
    with_reducible rfl
  rotate_left
  · simp only [Act.put, List.setIfInBounds_toArray, List.set_cons_zero, List.set_cons_succ, i64_w, i32_w]
    rfl
  refine pure_ (i := 2) (N := some 16) (v := ?_) (a' := ?_) #[true, true, true, false, false, false, false, false, false, false, false, false, false, false, false, false, false, false, false, false, false, false, false] rfl rfl (by kernel_rfl) (fun _ _ _ h => h) (Or.inl ⟨by rfl, ?_⟩) ?_ ?_
  rotate_left
  · intro w'
    go_simp
    with_reducible rfl
  rotate_left
  · simp only [Act.put, List.setIfInBounds_toArray, List.set_cons_zero, List.set_cons_succ, i64_w, i32_w]
    rfl
  refine pure_ (i := 3) (N := some 17) (v := ?_) (a' := ?_) #[true, true, true, true, false, false, false, false, false, false, false, false, false, false, false, false, false, false, false, false, false, false, false] rfl rfl (by kernel_rfl) (fun _ _ _ h => h) (Or.inl ⟨by rfl, ?_⟩) ?_ ?_
  rotate_left
  · intro w'
    go_simp
    with_reducible rfl
  rotate_left
  · simp only [Act.put, List.setIfInBounds_toArray, List.set_cons_zero, List.set_cons_succ, i64_w, i32_w]
    rfl
  refine pure_ (i := 4) (N := some 18) (v := ?_) (a' := ?_) #[true, true, true, true, true, false, false, false, false, false, false, false, false, false, false, false, false, false, false, false, false, false, false] rfl rfl (by kernel_rfl) (fun _ _ _ h => h) (Or.inl ⟨by rfl, ?_⟩) ?_ ?_
  rotate_left
  · intro w'
    go_simp
    with_reducible rfl
  rotate_left
  · simp only [Act.put, List.setIfInBounds_toArray, List.set_cons_zero, List.set_cons_succ, i64_w, i32_w]
    rfl
  refine pure_ (i := 6) (N := some 20) (v := ?_) (a' := ?_) #[true, true, true, true, true, false, true, false, false, false, false, false, false, false, false, false, false, false, false, false, false, false, false] rfl rfl (by kernel_rfl) (fun _ _ _ h => h) (Or.inl ⟨by rfl, ?_⟩) ?_ ?_
  rotate_left
  · intro w'
    go_simp
    with_reducible rfl
  rotate_left
  · simp only [Act.put, List.setIfInBounds_toArray, List.set_cons_zero, List.set_cons_succ, i64_w, i32_w]
    rfl
  refine pure_ (i := 7) (N := some 21) (v := ?_) (a' := ?_) #[true, true, true, true, true, false, true, true, false, false, false, false, false, false, false, false, false, false, false, false, false, false, false] rfl rfl (by kernel_rfl) (fun _ _ _ h => h) (Or.inl ⟨by rfl, ?_⟩) ?_ ?_
  rotate_left
  · intro w'
    go_simp
    with_reducible rfl
  rotate_left
  · simp only [Act.put, List.setIfInBounds_toArray, List.set_cons_zero, List.set_cons_succ, i64_w, i32_w]
    rfl
  refine pure_ (i := 8) (N := some 22) (v := ?_) (a' := ?_) #[true, true, true, true, true, false, true, true, true, false, false, false, false, false, false, false, false, false, false, false, false, false, false] rfl rfl (by kernel_rfl) (fun _ _ _ h => h) (Or.inl ⟨by rfl, ?_⟩) ?_ ?_
  rotate_left
  · intro w'
    go_simp
    with_reducible rfl
  rotate_left
  · simp only [Act.put, List.setIfInBounds_toArray, List.set_cons_zero, List.set_cons_succ, i64_w, i32_w]
    rfl
  refine pure_ (i := 10) (N := some 24) (v := ?_) (a' := ?_) #[true, true, true, true, true, false, true, true, true, false, true, false, false, false, false, false, false, false, false, false, false, false, false] rfl rfl (by kernel_rfl) (fun _ _ _ h => h) (Or.inl ⟨by rfl, ?_⟩) ?_ ?_
  rotate_left
  · intro w'
    go_simp
    with_reducible rfl
  rotate_left
  · simp only [Act.put, List.setIfInBounds_toArray, List.set_cons_zero, List.set_cons_succ, i64_w, i32_w]
    rfl
  refine pure_ (i := 11) (N := some 25) (v := ?_) (a' := ?_) #[true, true, true, true, true, false, true, true, true, false, true, true, false, false, false, false, false, false, false, false, false, false, false] rfl rfl (by kernel_rfl) (fun _ _ _ h => h) (Or.inl ⟨by rfl, ?_⟩) ?_ ?_
  rotate_left
  · intro w'
    go_simp
    with_reducible rfl
  rotate_left
  · simp only [Act.put, List.setIfInBounds_toArray, List.set_cons_zero, List.set_cons_succ, i64_w, i32_w]
    rfl
  refine pure_ (i := 12) (N := some 26) (v := ?_) (a' := ?_) #[true, true, true, true, true, false, true, true, true, false, true, true, true, false, false, false, false, false, false, false, false, false, false] rfl rfl (by kernel_rfl) (fun _ _ _ h => h) (Or.inl ⟨by rfl, ?_⟩) ?_ ?_
  rotate_left
  · intro w'
    go_simp
    with_reducible rfl
  rotate_left
  · simp only [Act.put, List.setIfInBounds_toArray, List.set_cons_zero, List.set_cons_succ, i64_w, i32_w]
    rfl
  refine pure_ (i := 13) (N := some 27) (v := ?_) (a' := ?_) #[true, true, true, true, true, false, true, true, true, false, true, true, true, true, false, false, false, false, false, false, false, false, false] rfl rfl (by kernel_rfl) (fun _ _ _ h => h) (Or.inl ⟨by rfl, ?_⟩) ?_ ?_
  rotate_left
  · intro w'
    go_simp
    with_reducible rfl
  rotate_left
  · simp only [Act.put, List.setIfInBounds_toArray, List.set_cons_zero, List.set_cons_succ, i64_w, i32_w]
    rfl
  refine take_ (i := 5) (N := some 19) (v := ?_) (a' := ?_) #[true, true, true, true, true, true, true, true, true, false, true, true, true, true, false, false, false, false, false, false, false, false, false] rfl rfl (by kernel_rfl) (fun _ _ _ h => h) (Or.inl ⟨by rfl, ?_⟩) hHeld ?_ ?_
  rotate_left
  · rintro w' ⟨s0, s1, s2⟩
    go_simp
    with_reducible rfl
  rotate_left
  · simp only [Act.put, List.setIfInBounds_toArray, List.set_cons_zero, List.set_cons_succ, i64_w, i32_w]
    rfl
  refine take_ (i := 9) (N := some 23) (v := ?_) (a' := ?_) #[true, true, true, true, true, true, true, true, true, true, true, true, true, true, false, false, false, false, false, false, false, false, false] rfl rfl (by kernel_rfl) (fun _ _ _ h => h) (Or.inl ⟨by rfl, ?_⟩) hHeld ?_ ?_
  rotate_left
  · rintro w' ⟨s0, s1, s2⟩
    go_simp
    with_reducible rfl
  rotate_left
  · simp only [Act.put, List.setIfInBounds_toArray, List.set_cons_zero, List.set_cons_succ, i64_w, i32_w]
    rfl
  refine take_ (i := 14) (N := some 28) (v := ?_) (a' := ?_) #[true, true, true, true, true, true, true, true, true, true, true, true, true, true, true, false, false, false, false, false, false, false, false] rfl rfl (by kernel_rfl) (fun _ _ _ h => h) (Or.inl ⟨by rfl, ?_⟩) hHeld ?_ ?_
  rotate_left
  · rintro w' ⟨s0, s1, s2⟩
    go_simp
    with_reducible rfl
  rotate_left
  · simp only [Act.put, List.setIfInBounds_toArray, List.set_cons_zero, List.set_cons_succ, i64_w, i32_w]
    rfl
  refine pure_ (i := 15) (N := some 29) (v := ?_) (a' := ?_) #[true, true, true, true, true, true, true, true, true, true, true, true, true, true, true, true, false, false, false, false, false, false, false] rfl rfl (by kernel_rfl) (fun _ _ _ h => h) (Or.inl ⟨by rfl, ?_⟩) ?_ ?_
  rotate_left
  · intro w'
    go_simp
    with_reducible rfl
  rotate_left
  · simp only [Act.put, List.setIfInBounds_toArray, List.set_cons_zero, List.set_cons_succ, i64_w, i32_w]
    rfl
  refine one_ (i := 16) (N := some 30) #[true, true, true, true, true, true, true, true, true, true, true, true, true, true, true, true, true, false, false, false, false, false, false] rfl rfl (by kernel_rfl) (by decide) (fun K hK => ?_)
  refine goes_ Try.func96 (by kernel_rfl) rfl #[.int .u64 rate, .int .u64 d] (by rfl) rfl rfl (by simp only [List.map_toArray, List.map_cons, List.map_nil]; rfl) ?_
  with_reducible refine (hm w.drew).mono ?_
  rintro e w3 ⟨rfl, rfl⟩
  refine ⟨_, rfl, ?_⟩
  refine hK.out _ _ ⟨hHeld.1, hHeld.2.1, hHeld.2.2⟩ (fun hHeld => ?_)
  clear hK K
  refine norm_ (a' := ?_) ?_ ?_
  rotate_left
  · show Act.put _ (some 30) _ = _
    simp only [Act.put, List.setIfInBounds_toArray, List.set_cons_zero, List.set_cons_succ, i64_w, i32_w]
    rfl
  refine one_ (i := 17) (N := some 31) #[true, true, true, true, true, true, true, true, true, true, true, true, true, true, true, true, true, true, false, false, false, false, false] rfl rfl (by kernel_rfl) (by decide) (fun K hK => ?_)
  refine value_ (w1 := ?_) (v := ?_) (by rfl) rfl ?_ ?_
  rotate_left 2
  · go_simp
    constructor
    · rfl
    · rfl
  refine hK.out _ _ ⟨(cell_alloc hHeld.1 _), (cell_alloc hHeld.2.1 _), (cell_alloc hHeld.2.2 _)⟩ (fun hHeld => ?_)
  clear hK K
  refine norm_ (a' := ?_) ?_ ?_
  rotate_left
  · show Act.put _ (some 31) _ = _
    simp only [Act.put, List.setIfInBounds_toArray, List.set_cons_zero, List.set_cons_succ, i64_w, i32_w]
    rfl
  refine one_ (i := 18) (N := some 32) #[true, true, true, true, true, true, true, true, true, true, true, true, true, true, true, true, true, true, true, false, false, false, false] rfl rfl (by kernel_rfl) (by decide) (fun K hK => ?_)
  refine goes_ Try.func58 (by kernel_rfl) rfl #[.slice (some ⟨w.heap.size, 0, none⟩) 2 2] (by rfl) rfl rfl (by simp only [List.map_toArray, List.map_cons, List.map_nil]; rfl) ?_
  with_reducible refine (add2 w.heap.size tok m _ utok us _ (Blk.new w.drew 22 [.int .u64 tok, .int .u64 m])).mono ?_
  rintro e w4 ⟨rfl, rfl⟩
  refine ⟨_, rfl, ?_⟩
  refine hK.out _ _ ⟨hHeld.1, hHeld.2.1, hHeld.2.2⟩ (fun hHeld => ?_)
  clear hK K
  refine norm_ (a' := ?_) ?_ ?_
  rotate_left
  · show Act.put _ (some 32) _ = _
    simp only [Act.put, List.setIfInBounds_toArray, List.set_cons_zero, List.set_cons_succ, i64_w, i32_w]
    rfl
  refine pure_ (i := 19) (N := some 33) (v := ?_) (a' := ?_) #[true, true, true, true, true, true, true, true, true, true, true, true, true, true, true, true, true, true, true, true, false, false, false] rfl rfl (by kernel_rfl) (fun _ _ _ h => h) (Or.inl ⟨by rfl, ?_⟩) ?_ ?_
  rotate_left
  · intro w'
    go_simp
    with_reducible rfl
  rotate_left
  · simp only [Act.put, List.setIfInBounds_toArray, List.set_cons_zero, List.set_cons_succ, i64_w, i32_w]
    rfl
  refine pure_ (i := 20) (N := some 34) (v := ?_) (a' := ?_) #[true, true, true, true, true, true, true, true, true, true, true, true, true, true, true, true, true, true, true, true, true, false, false] rfl rfl (by kernel_rfl) (fun _ _ _ h => h) (Or.inl ⟨by rfl, ?_⟩) ?_ ?_
  rotate_left
  · intro w'
    go_simp
    with_reducible rfl
  rotate_left
  · simp only [Act.put, List.setIfInBounds_toArray, List.set_cons_zero, List.set_cons_succ, i64_w, i32_w]
    rfl
  refine pure_ (i := 21) (N := some 35) (v := ?_) (a' := ?_) #[true, true, true, true, true, true, true, true, true, true, true, true, true, true, true, true, true, true, true, true, true, true, false] rfl rfl (by kernel_rfl) (fun _ _ _ h => h) (Or.inl ⟨by rfl, ?_⟩) ?_ ?_
  rotate_left
  · intro w'
    go_simp
    with_reducible rfl
  rotate_left
  · simp only [Act.put, List.setIfInBounds_toArray, List.set_cons_zero, List.set_cons_succ, i64_w, i32_w]
    rfl
  refine last_ (i := 22) (N := none) #[true, true, true, true, true, true, true, true, true, true, true, true, true, true, true, true, true, true, true, true, true, true, true] rfl rfl (by kernel_rfl) (by decide) (fun K hK => ?_)
  refine skip_ (w1 := ?_) (by rfl) rfl ?_ ?_
  rotate_left
  · go_simp
    rfl
  refine hK.out _ _ ?_
  clear hK K
  refine done_ (by kernel_rfl) ?_
  go_wp2
  go_end0
  have B : Blk w b 158 [.int .u64 tok, .int .u64 was, .int .u64 rate, .int .u64 now] := h
  have K : Keeps [b] w w := Keeps.refl _ _
  exact ⟨rfl, (show Blk _ b 158 [.int .u64 (sat (tok + m)), .int .u64 was, .int .u64 rate, .int .u64 t] from (by (repeat (first | with_reducible exact B | with_reducible apply Blk.drew | with_reducible apply Blk.drewN | with_reducible refine Blk.newAt (by simp; done) | with_reducible apply Blk.alloc | with_reducible apply Blk.set2 | with_reducible apply Blk.far)); (all_goals (first | rfl | assumption | (simp; done) | (simp; omega) | omega)))), (by (repeat (first | with_reducible exact K | with_reducible apply Keeps.drew | with_reducible apply Keeps.drewN | with_reducible apply Keeps.alloc | with_reducible apply Keeps.set_)); (all_goals (first | (left; simp; done) | (right; simp; done) | (right; simp; omega) | (right; omega))))⟩
theorem bkt_take_no (b : Nat) (s : Bkt) (z : Int) (w : World) (h : BktAt w b s) (uz : U64 z) (ht : s.tok < sat (z * 1000000)) : Calls Try.prog 97 #[.pointer (some ⟨b, 0, none⟩), .int .u64 z] w fun e w' => e = .returned (.bool false) ∧ w' = w := by
  have g0 := h.c0
  have hm := fix_mul z 1000000 w uz ⟨by decide, by decide⟩
  generalize sat (z * 1000000) = n at *
  go_enter Try.func97, Try.ntmps97
  go_wp2_with (fail)
  refine hm.mono ?_
  rintro e w1 ⟨rfl, rfl⟩
  go_wp2
  go_ret
  exact ⟨rfl, rfl⟩
theorem bkt_take_yes (b : Nat) (s : Bkt) (z : Int) (w : World) (h : BktAt w b s) (ok : s.ok) (uz : U64 z) (ht : sat (z * 1000000) ≤ s.tok) : Calls Try.prog 97 #[.pointer (some ⟨b, 0, none⟩), .int .u64 z] w fun e w' => e = .returned (.bool true) ∧ BktAt w' b ⟨s.tok - sat (z * 1000000), s.was, s.rate, s.now⟩ ∧ Keeps [b] w w' := by
  have g0 := h.c0
  have f0 := h.fz 0
  have hm := fix_mul z 1000000 w uz ⟨by decide, by decide⟩
  have up : 0 ≤ z * 1000000 := Int.mul_nonneg uz.1 (by decide)
  have us := sat_u up
  have k1 := u64sub _ _ ok.tok us ht
  generalize sat (z * 1000000) = n at *
  go_enter Try.func97, Try.ntmps97
  go_wp2_with (fail)
  refine hm.mono ?_
  rintro e w1 ⟨rfl, rfl⟩
  go_wp2
  go_ret
  exact ⟨rfl, (Blk.set_ h 0 _), (Keeps.refl _ _).set_ (.inl (by simp)) _⟩
set_option maxHeartbeats 1000000 in
theorem bkt_waste (b : Nat) (s : Bkt) (n : Int) (w : World) (h : BktAt w b s) (ok : s.ok) (un : U64 n) : Calls Try.prog 56 #[.pointer (some ⟨b, 0, none⟩), .int .u64 n] w fun e w' => e = .returned (.int .u64 (min n s.tok)) ∧ BktAt w' b ⟨s.tok - min n s.tok, sat (s.was + min n s.tok), s.rate, s.now⟩ ∧ Keeps [b] w w' := by
  have um : U64 (min n s.tok) := by obtain ⟨h0, h1⟩ := un; obtain ⟨h2, h3⟩ := ok.tok; exact ⟨by omega, by omega⟩
  have hle : min n s.tok ≤ s.tok := by omega
  obtain ⟨tok, was, rate, now⟩ := s
  obtain ⟨utok, uwas, urate, unow⟩ := ok
  dsimp only at *
  have g0 := h.c0
  have g1 := h.c1
  have f0 := h.fz 0
  have f1 := h.fz 1
  dsimp only at g0 g1
  by_cases hc : n ≤ tok
  · have hmin : min n tok = n := by omega
    rw [hmin] at um hle ⊢
    have k1 := u64sub _ _ utok um hle
    have hl := h.lt
    have B : Blk w b 158 [.int .u64 tok, .int .u64 was, .int .u64 rate, .int .u64 now] := h
    have K : Keeps [b] w w := Keeps.refl _ _
    go_enter Try.func56, Try.ntmps56
    go_wp2_with (fail)
    refine (add2 w.heap.size was n _ uwas um _ (Blk.newAt (by simp))).mono ?_
    rintro e w1 ⟨rfl, rfl⟩
    go_wp2
    go_ret
    exact ⟨rfl, (show Blk _ b 158 [_, .int .u64 (sat (was + n)), .int .u64 rate, .int .u64 now] from (by (repeat (first | with_reducible exact B | with_reducible apply Blk.drew | with_reducible apply Blk.drewN | with_reducible refine Blk.newAt (by simp; done) | with_reducible apply Blk.alloc | with_reducible apply Blk.set2 | with_reducible apply Blk.far)); (all_goals (first | rfl | assumption | (simp; done) | (simp; omega) | omega)))), (by (repeat (first | with_reducible exact K | with_reducible apply Keeps.drew | with_reducible apply Keeps.drewN | with_reducible apply Keeps.alloc | with_reducible apply Keeps.set_)); (all_goals (first | (left; simp; done) | (right; simp; done) | (right; simp; omega) | (right; omega))))⟩
  · have hmin : min n tok = tok := by omega
    rw [hmin] at um hle ⊢
    have k1 : IntKind.u64.wrap 0 = 0 := by decide
    have hc' : tok < n := by omega
    have e0 : tok - tok = 0 := by omega
    rw [e0]
    clear hmin hle e0
    have hl := h.lt
    have B : Blk w b 158 [.int .u64 tok, .int .u64 was, .int .u64 rate, .int .u64 now] := h
    have K : Keeps [b] w w := Keeps.refl _ _
    go_enter Try.func56, Try.ntmps56
    go_wp2_with (fail)
    refine (add2 w.heap.size was tok _ uwas um _ (Blk.newAt (by simp))).mono ?_
    rintro e w1 ⟨rfl, rfl⟩
    go_wp2
    go_ret
    exact ⟨rfl, (show Blk _ b 158 [_, .int .u64 (sat (was + tok)), .int .u64 rate, .int .u64 now] from (by (repeat (first | with_reducible exact B | with_reducible apply Blk.drew | with_reducible apply Blk.drewN | with_reducible refine Blk.newAt (by simp; done) | with_reducible apply Blk.alloc | with_reducible apply Blk.set2 | with_reducible apply Blk.far)); (all_goals (first | rfl | assumption | (simp; done) | (simp; omega) | omega)))), (by (repeat (first | with_reducible exact K | with_reducible apply Keeps.drew | with_reducible apply Keeps.drewN | with_reducible apply Keeps.alloc | with_reducible apply Keeps.set_)); (all_goals (first | (left; simp; done) | (right; simp; done) | (right; simp; omega) | (right; omega))))⟩
end Go.Proofs.Ytjnojomfaikfjaa
