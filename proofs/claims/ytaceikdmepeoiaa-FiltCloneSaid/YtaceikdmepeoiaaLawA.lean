/- goitlaw05: of, act, same. -/
import Derived.Test.YtaceikdmepeoiaaPlainF
namespace Go.Proofs.Ytaceikdmepeoiaa
set_option linter.unusedSimpArgs false
set_option linter.unusedVariables false
open Go.RowKit Go.Proofs.YtaceikdmepeoiaaW.PrintLast
/-- The program's filter and the reference's, side by side. -/
structure Link (s : Flt) (q : RFlt) : Prop where
  hW : q.W = s.W
  hnow : q.now = s.now
  hleast : q.least = s.least
  rel : PF.Rel s.least s.W s.now s.xs q.L
  uW : U64 s.W
  un : U64 s.now
  uL : ∀ e ∈ q.L, U64 e.t
theorem Link.ux {s : Flt} {q : RFlt} (h : Link s q) : ∀ e ∈ s.xs, U64 e.t := by
  intro e he
  have h1 := h.rel.1
  rw [h1] at he
  exact h.uL e ((PF.sky_sub _ _).mem (List.mem_filter.1 he).1)
theorem Link.len {s : Flt} {q : RFlt} (h : Link s q) : s.xs.length ≤ q.L.length := by
  rw [h.rel.1]
  exact Nat.le_trans (List.length_filter_le _ _) (PF.sky_sub _ _).length_le
theorem Link.start (W : Int) (l : Bool) (hW : U64 W) : Link ⟨W, 0, l, []⟩ ⟨W, 0, l, []⟩ :=
  ⟨rfl, rfl, rfl, ⟨by simp [PF.sky], by simp [PF.Sorted]⟩, hW, ⟨Int.le_refl 0, by show (0 : Int) ≤ M64; decide⟩, by simp⟩
theorem Link.to {s : Flt} {q : RFlt} (h : Link s q) {t : Int} (ht : s.now ≤ t) (ut : U64 t) : Link ⟨s.W, t, s.least, prune s.W t s.xs⟩ ⟨q.W, t, q.least, q.L⟩ :=
  ⟨h.hW, rfl, h.hleast, h.rel.to ht, h.uW, ut, h.uL⟩
theorem Link.put {s : Flt} {q : RFlt} (h : Link s q) {t : Int} (ht : s.now ≤ t) (ut : U64 t) (x : Int) : Link ⟨s.W, t, s.least, popw s.least x (prune s.W t s.xs) ++ [⟨t, x⟩]⟩ ⟨q.W, t, q.least, q.L ++ [⟨t, x⟩]⟩ :=
  ⟨h.hW, rfl, h.hleast, (h.rel.to ht).put h.uW.1 ut.2, h.uW, ut, by intro e he; simp at he; rcases he with he | rfl; exact h.uL e he; exact ut⟩
theorem Link.best {s : Flt} {q : RFlt} (h : Link s q) : bx (bestOf q.W q.now q.least q.L) = hdx s ∧ bt (bestOf q.W q.now q.least q.L) = hdt s ∧ (bestOf q.W q.now q.least q.L).isSome = !s.xs.isEmpty := by
  rw [h.hW, h.hnow, h.hleast, h.rel.best]
  unfold hdx hdt
  cases s.xs <;> simp [bx, bt]
/-- Both in memory, linked; what they own lies from lo up. -/
structure Pair (lo : Nat) (w : World) (f r pb m : Nat) (v : Value) (s : Flt) (q : RFlt) : Prop where
  F : FiltAt w f r pb s
  R : RefAt w m v q
  L : Link s q
  lf : lo ≤ f
  lr : lo ≤ r
  lp : lo ≤ pb
  lm : lo ≤ m
  lv : ∀ b, v.ownBlock = some b → lo ≤ b
section
variable {lo : Nat} {w w' : World} {f r pb m : Nat} {v : Value} {s : Flt} {q : RFlt} {bs : List Nat}
theorem Pair.keeps0 (h : Pair lo w f r pb m v s q) (k : Keeps [] w w') : Pair lo w' f r pb m v s q :=
  ⟨h.F.keeps k (by simp) (by simp) (by simp), h.R.keeps k (by simp) (by simp), h.L, h.lf, h.lr, h.lp, h.lm, h.lv⟩
theorem sep_m (F : FiltAt w f r pb s) (R : RefAt w m v q) : m ∉ [f, r, pb] := by
  obtain ⟨_, _, _, _, h'⟩ := F.row
  have h1 := R.blk.ne_ F.blk (by decide)
  have h2 := R.blk.ne_ h'.ring (by decide)
  have h3 := R.blk.ne_ h'.places (by decide)
  simp; exact ⟨h1, h2, h3⟩
theorem sep_v (F : FiltAt w f r pb s) (R : RefAt w m v q) : ∀ b, v.ownBlock = some b → b ∉ [f, r, pb] := by
  obtain ⟨_, _, _, _, h'⟩ := F.row
  have h1 := own_type R.row F.blk (by decide)
  have h2 := own_type R.row h'.ring (by decide)
  have h3 := own_type R.row h'.places (by decide)
  intro b hb; simp; refine ⟨?_, ?_, ?_⟩ <;> rintro rfl
  · exact h1 hb
  · exact h2 hb
  · exact h3 hb
theorem sep_n (F : FiltAt w f r pb s) (R : RefAt w m v q) : f ∉ m :: v.ownBlock.toList ∧ r ∉ m :: v.ownBlock.toList ∧ pb ∉ m :: v.ownBlock.toList := by
  have h1 := sep_m F R
  have h2 := sep_v F R
  simp at h1
  refine ⟨?_, ?_, ?_⟩ <;> simp only [List.mem_cons, not_or, Option.mem_toList] <;> refine ⟨by rintro rfl; simp at h1, ?_⟩ <;> intro hb <;> exact absurd (h2 _ hb) (by simp)
theorem Pair.nf (h : Pair lo w f r pb m v s q) : m ∉ [f, r, pb] := sep_m h.F h.R
theorem Pair.nv (h : Pair lo w f r pb m v s q) : ∀ b, v.ownBlock = some b → b ∉ [f, r, pb] := sep_v h.F h.R
end
set_option maxHeartbeats 1000000 in
set_option maxRecDepth 100000 in
theorem same_calls {lo f r pb m : Nat} {v : Value} {s : Flt} {q : RFlt} (w : World) (h : Pair lo w f r pb m v s q) (hn : q.L.length ≤ 1000000) :
    Calls Try.prog 17 #[.pointer (some ⟨f, 0, none⟩), .pointer (some ⟨m, 0, none⟩)] w fun e w' => e = .returned (.bool true) ∧ Keeps [] w w' := by
  have hb := best_calls f r pb s w h.F
  obtain ⟨e1, e2, e3⟩ := h.L.best
  have hr : ∀ w', Keeps [] w w' → _ := fun w' k => rbest m v q w' (h.keeps0 k).R (by rw [h.L.hW]; exact h.L.uW) h.L.uL hn
  have ht : ∀ w', Keeps [] w w' → _ := fun w' k => time_calls f r pb s w' (h.keeps0 k).F
  have hg : ∀ w', Keeps [] w w' → w'.cell? ⟨m, 2, none⟩ = some (.int .u64 s.now) := fun w' k => by rw [(h.keeps0 k).R.c2, h.L.hnow]
  rw [e1, e2, e3] at hr
  clear e1 e2 e3 h
  generalize hdx s = X at *
  generalize hdt s = T at *
  generalize (!s.xs.isEmpty) = P at *
  generalize s.now = N at *
  go_enter Try.func17, Try.ntmps17
  go_wp2_with (fail)
  refine hb.mono ?_
  rintro e w1 ⟨rfl, k1⟩
  go_wp2_with (fail)
  refine (hr _ k1).mono ?_
  rintro e w2 ⟨rfl, k2⟩
  have K2 : Keeps [] w w2 := k1.trans k2 (by simp)
  go_wp2_with (fail)
  have g2 := hg _ K2
  have hP : (P == P) = true := by simp
  refine start_ (n := 23) (S := fun w' => w'.cell? ⟨m, 2, none⟩ = some (.int .u64 N)) (ds := []) #[false, false, false, false, false, false, false, false, false, false, false, false, false, false, false, false, false, false, false, false, false, false, false] (by kernel_rfl) rfl rfl (g2) (fun hHeld => ?_)
  refine pure_ (i := 0) (N := some 23) (v := ?_) (a' := ?_) #[true, false, false, false, false, false, false, false, false, false, false, false, false, false, false, false, false, false, false, false, false, false, false] rfl rfl (by kernel_rfl) (fun _ _ _ h => h) (Or.inl ⟨by rfl, ?_⟩) ?_ ?_
  rotate_left
  · intro w'
    go_simp
    with_reducible rfl
  rotate_left
  · simp only [Act.put, List.setIfInBounds_toArray, List.set_cons_zero, List.set_cons_succ, i64_w, i32_w]
    rfl
  refine pure_ (i := 1) (N := some 24) (v := ?_) (a' := ?_) #[true, true, false, false, false, false, false, false, false, false, false, false, false, false, false, false, false, false, false, false, false, false, false] rfl rfl (by kernel_rfl) (fun _ _ _ h => h) (Or.inl ⟨by rfl, ?_⟩) ?_ ?_
  rotate_left
  · intro w'
    go_simp
    with_reducible rfl
  rotate_left
  · simp only [Act.put, List.setIfInBounds_toArray, List.set_cons_zero, List.set_cons_succ, i64_w, i32_w]
    rfl
  refine pure_ (i := 2) (N := some 25) (v := ?_) (a' := ?_) #[true, true, true, false, false, false, false, false, false, false, false, false, false, false, false, false, false, false, false, false, false, false, false] rfl rfl (by kernel_rfl) (fun _ _ _ h => h) (Or.inl ⟨by rfl, ?_⟩) ?_ ?_
  rotate_left
  · intro w'
    go_simp
    with_reducible rfl
  rotate_left
  · simp only [Act.put, List.setIfInBounds_toArray, List.set_cons_zero, List.set_cons_succ, i64_w, i32_w]
    rfl
  refine pure_ (i := 3) (N := some 26) (v := ?_) (a' := ?_) #[true, true, true, true, false, false, false, false, false, false, false, false, false, false, false, false, false, false, false, false, false, false, false] rfl rfl (by kernel_rfl) (fun _ _ _ h => h) (Or.inl ⟨by rfl, ?_⟩) ?_ ?_
  rotate_left
  · intro w'
    go_simp
    with_reducible rfl
  rotate_left
  · simp only [Act.put, List.setIfInBounds_toArray, List.set_cons_zero, List.set_cons_succ, i64_w, i32_w]
    rfl
  refine pure_ (i := 4) (N := some 27) (v := ?_) (a' := ?_) #[true, true, true, true, true, false, false, false, false, false, false, false, false, false, false, false, false, false, false, false, false, false, false] rfl rfl (by kernel_rfl) (fun _ _ _ h => h) (Or.inl ⟨by rfl, ?_⟩) ?_ ?_
  rotate_left
  · intro w'
    go_simp
    with_reducible rfl
  rotate_left
  · simp only [Act.put, List.setIfInBounds_toArray, List.set_cons_zero, List.set_cons_succ, i64_w, i32_w]
    rfl
  refine pure_ (i := 5) (N := some 28) (v := ?_) (a' := ?_) #[true, true, true, true, true, true, false, false, false, false, false, false, false, false, false, false, false, false, false, false, false, false, false] rfl rfl (by kernel_rfl) (fun _ _ _ h => h) (Or.inl ⟨by rfl, ?_⟩) ?_ ?_
  rotate_left
  · intro w'
    go_simp
    with_reducible rfl
  rotate_left
  · simp only [Act.put, List.setIfInBounds_toArray, List.set_cons_zero, List.set_cons_succ, i64_w, i32_w]
    rfl
  refine pure_ (i := 6) (N := some 29) (v := ?_) (a' := ?_) #[true, true, true, true, true, true, true, false, false, false, false, false, false, false, false, false, false, false, false, false, false, false, false] rfl rfl (by kernel_rfl) (fun _ _ _ h => h) (Or.inl ⟨by rfl, ?_⟩) ?_ ?_
  rotate_left
  · intro w'
    go_simp
    with_reducible rfl
  rotate_left
  · simp only [Act.put, List.setIfInBounds_toArray, List.set_cons_zero, List.set_cons_succ, i64_w, i32_w]
    rfl
  refine pure_ (i := 7) (N := some 30) (v := ?_) (a' := ?_) #[true, true, true, true, true, true, true, true, false, false, false, false, false, false, false, false, false, false, false, false, false, false, false] rfl rfl (by kernel_rfl) (fun _ _ _ h => h) (Or.inl ⟨by rfl, ?_⟩) ?_ ?_
  rotate_left
  · intro w'
    go_simp
    with_reducible rfl
  rotate_left
  · simp only [Act.put, List.setIfInBounds_toArray, List.set_cons_zero, List.set_cons_succ, i64_w, i32_w]
    rfl
  refine pure_ (i := 8) (N := some 31) (v := ?_) (a' := ?_) #[true, true, true, true, true, true, true, true, true, false, false, false, false, false, false, false, false, false, false, false, false, false, false] rfl rfl (by kernel_rfl) (fun _ _ _ h => h) (Or.inl ⟨by rfl, ?_⟩) ?_ ?_
  rotate_left
  · intro w'
    go_simp
    with_reducible rfl
  rotate_left
  · simp only [Act.put, List.setIfInBounds_toArray, List.set_cons_zero, List.set_cons_succ, i64_w, i32_w]
    rfl
  refine pure_ (i := 9) (N := some 32) (v := ?_) (a' := ?_) #[true, true, true, true, true, true, true, true, true, true, false, false, false, false, false, false, false, false, false, false, false, false, false] rfl rfl (by kernel_rfl) (fun _ _ _ h => h) (Or.inl ⟨by rfl, ?_⟩) ?_ ?_
  rotate_left
  · intro w'
    go_simp
    with_reducible rfl
  rotate_left
  · simp only [Act.put, List.setIfInBounds_toArray, List.set_cons_zero, List.set_cons_succ, i64_w, i32_w]
    rfl
  refine pure_ (i := 10) (N := some 33) (v := ?_) (a' := ?_) #[true, true, true, true, true, true, true, true, true, true, true, false, false, false, false, false, false, false, false, false, false, false, false] rfl rfl (by kernel_rfl) (fun _ _ _ h => h) (Or.inl ⟨by rfl, ?_⟩) ?_ ?_
  rotate_left
  · intro w'
    go_simp
    with_reducible rfl
  rotate_left
  · simp only [Act.put, List.setIfInBounds_toArray, List.set_cons_zero, List.set_cons_succ, i64_w, i32_w]
    rfl
  refine pure_ (i := 11) (N := some 34) (v := ?_) (a' := ?_) #[true, true, true, true, true, true, true, true, true, true, true, true, false, false, false, false, false, false, false, false, false, false, false] rfl rfl (by kernel_rfl) (fun _ _ _ h => h) (Or.inl ⟨by rfl, ?_⟩) ?_ ?_
  rotate_left
  · intro w'
    go_simp
    with_reducible rfl
  rotate_left
  · simp only [Act.put, List.setIfInBounds_toArray, List.set_cons_zero, List.set_cons_succ, i64_w, i32_w]
    rfl
  refine pure_ (i := 12) (N := some 35) (v := ?_) (a' := ?_) #[true, true, true, true, true, true, true, true, true, true, true, true, true, false, false, false, false, false, false, false, false, false, false] rfl rfl (by kernel_rfl) (fun _ _ _ h => h) (Or.inl ⟨by rfl, ?_⟩) ?_ ?_
  rotate_left
  · intro w'
    go_simp
    with_reducible rfl
  rotate_left
  · simp only [Act.put, List.setIfInBounds_toArray, List.set_cons_zero, List.set_cons_succ, i64_w, i32_w]
    rfl
  refine pure_ (i := 13) (N := some 36) (v := ?_) (a' := ?_) #[true, true, true, true, true, true, true, true, true, true, true, true, true, true, false, false, false, false, false, false, false, false, false] rfl rfl (by kernel_rfl) (fun _ _ _ h => h) (Or.inl ⟨by rfl, ?_⟩) ?_ ?_
  rotate_left
  · intro w'
    go_simp
    with_reducible rfl
  rotate_left
  · simp only [Act.put, List.setIfInBounds_toArray, List.set_cons_zero, List.set_cons_succ, i64_w, i32_w]
    rfl
  refine pure_ (i := 14) (N := some 37) (v := ?_) (a' := ?_) #[true, true, true, true, true, true, true, true, true, true, true, true, true, true, true, false, false, false, false, false, false, false, false] rfl rfl (by kernel_rfl) (fun _ _ _ h => h) (Or.inl ⟨by rfl, ?_⟩) ?_ ?_
  rotate_left
  · intro w'
    go_simp
    with_reducible rfl
  rotate_left
  · simp only [Act.put, List.setIfInBounds_toArray, List.set_cons_zero, List.set_cons_succ, i64_w, i32_w]
    rfl
  refine pure_ (i := 16) (N := some 39) (v := ?_) (a' := ?_) #[true, true, true, true, true, true, true, true, true, true, true, true, true, true, true, false, true, false, false, false, false, false, false] rfl rfl (by kernel_rfl) (fun _ _ _ h => h) (Or.inl ⟨by rfl, ?_⟩) ?_ ?_
  rotate_left
  · intro w'
    go_simp
    with_reducible rfl
  rotate_left
  · simp only [Act.put, List.setIfInBounds_toArray, List.set_cons_zero, List.set_cons_succ, i64_w, i32_w]
    rfl
  refine pure_ (i := 17) (N := some 40) (v := ?_) (a' := ?_) #[true, true, true, true, true, true, true, true, true, true, true, true, true, true, true, false, true, true, false, false, false, false, false] rfl rfl (by kernel_rfl) (fun _ _ _ h => h) (Or.inl ⟨by rfl, ?_⟩) ?_ ?_
  rotate_left
  · intro w'
    go_simp
    with_reducible rfl
  rotate_left
  · simp only [Act.put, List.setIfInBounds_toArray, List.set_cons_zero, List.set_cons_succ, i64_w, i32_w]
    rfl
  refine pure_ (i := 18) (N := some 41) (v := ?_) (a' := ?_) #[true, true, true, true, true, true, true, true, true, true, true, true, true, true, true, false, true, true, true, false, false, false, false] rfl rfl (by kernel_rfl) (fun _ _ _ h => h) (Or.inl ⟨by rfl, ?_⟩) ?_ ?_
  rotate_left
  · intro w'
    go_simp
    with_reducible rfl
  rotate_left
  · simp only [Act.put, List.setIfInBounds_toArray, List.set_cons_zero, List.set_cons_succ, i64_w, i32_w]
    rfl
  refine take_ (i := 19) (N := some 42) (v := ?_) (a' := ?_) #[true, true, true, true, true, true, true, true, true, true, true, true, true, true, true, false, true, true, true, true, false, false, false] rfl rfl (by kernel_rfl) (fun _ _ _ h => h) (Or.inl ⟨by rfl, ?_⟩) hHeld ?_ ?_
  rotate_left
  · intro w' s0
    go_simp
    with_reducible rfl
  rotate_left
  · simp only [Act.put, List.setIfInBounds_toArray, List.set_cons_zero, List.set_cons_succ, i64_w, i32_w]
    rfl
  refine one_ (i := 15) (N := some 38) #[true, true, true, true, true, true, true, true, true, true, true, true, true, true, true, true, true, true, true, true, false, false, false] rfl rfl (by kernel_rfl) (by decide) (fun K hK => ?_)
  refine goes_ Try.func21 (by kernel_rfl) rfl #[.pointer (some ⟨f, 0, none⟩)] (by rfl) rfl rfl (by simp only [List.map_toArray, List.map_cons, List.map_nil]; rfl) ?_
  with_reducible refine (ht w2.drew K2.drew).mono ?_
  rintro e w3 ⟨rfl, rfl⟩
  refine ⟨_, rfl, ?_⟩
  refine hK.out _ _ (hHeld) (fun hHeld => ?_)
  clear hK K
  refine norm_ (a' := ?_) ?_ ?_
  rotate_left
  · show Act.put _ (some 38) _ = _
    simp only [Act.put, List.setIfInBounds_toArray, List.set_cons_zero, List.set_cons_succ, i64_w, i32_w]
    rfl
  refine pure_ (i := 20) (N := some 43) (v := ?_) (a' := ?_) #[true, true, true, true, true, true, true, true, true, true, true, true, true, true, true, true, true, true, true, true, true, false, false] rfl rfl (by kernel_rfl) (fun _ _ _ h => h) (Or.inl ⟨by rfl, ?_⟩) ?_ ?_
  rotate_left
  · intro w'
    go_simp
    with_reducible rfl
  rotate_left
  · simp only [Act.put, List.setIfInBounds_toArray, List.set_cons_zero, List.set_cons_succ, i64_w, i32_w]
    rfl
  refine pure_ (i := 21) (N := some 44) (v := ?_) (a' := ?_) #[true, true, true, true, true, true, true, true, true, true, true, true, true, true, true, true, true, true, true, true, true, true, false] rfl rfl (by kernel_rfl) (fun _ _ _ h => h) (Or.inl ⟨by rfl, ?_⟩) ?_ ?_
  rotate_left
  · intro w'
    go_simp
    with_reducible rfl
  rotate_left
  · simp only [Act.put, List.setIfInBounds_toArray, List.set_cons_zero, List.set_cons_succ, i64_w, i32_w]
    rfl
  refine pure_ (i := 22) (N := some 4) (v := ?_) (a' := ?_) #[true, true, true, true, true, true, true, true, true, true, true, true, true, true, true, true, true, true, true, true, true, true, true] rfl rfl (by kernel_rfl) (fun _ _ _ h => h) (Or.inl ⟨by rfl, ?_⟩) ?_ ?_
  rotate_left
  · intro w'
    go_simp
    with_reducible rfl
  rotate_left
  · simp only [Act.put, List.setIfInBounds_toArray, List.set_cons_zero, List.set_cons_succ, i64_w, i32_w]
    rfl
  refine done_ (by kernel_rfl) ?_
  go_wp2
  go_ret
  exact ⟨rfl, K2.drew⟩
theorem of_calls (W : Int) (l : Bool) (w : World) : Calls Try.prog 14 #[.int .u64 W, .bool l] w fun e w' => ∃ f r pb, e = .returned (.pointer (some ⟨f, 0, none⟩)) ∧ FiltAt w' f r pb ⟨W, 0, l, []⟩ ∧ w.heap.size ≤ f ∧ w.heap.size ≤ r ∧ w.heap.size ≤ pb ∧ Keeps [] w w' := by
  cases l with
  | true =>
    go_enter Try.func14, Try.ntmps14
    go_wp2_with (fail)
    refine (least_calls W _).mono ?_
    rintro e w1 ⟨f, r, pb, rfl, h, h1, h2, h3, hk⟩
    go_wp2
    go_ret
    exact ⟨f, r, pb, rfl, h, h1, h2, h3, hk⟩
  | false =>
    go_enter Try.func14, Try.ntmps14
    go_wp2_with (fail)
    refine (most_calls W _).mono ?_
    rintro e w1 ⟨f, r, pb, rfl, h, h1, h2, h3, hk⟩
    go_wp2
    go_ret
    exact ⟨f, r, pb, rfl, h, h1, h2, h3, hk⟩
theorem Pair.drew {lo : Nat} {w : World} {f r pb m : Nat} {v : Value} {s : Flt} {q : RFlt} (h : Pair lo w f r pb m v s q) : Pair lo w.drew f r pb m v s q := h.keeps0 (Keeps.refl [] w).drew
theorem pair_box1 {lo : Nat} {w : World} {f r pb m b t : Nat} {cs : List Value} {v : Value} {s : Flt} {q : RFlt} (h : Pair lo w f r pb m v s q) (B : Blk w b t cs) (h1 : t ≠ 148) (h2 : t ≠ 230) (h3 : t ≠ 151) : b ∉ [f, r, pb] := by
  obtain ⟨_, _, _, _, h'⟩ := h.F.row
  have e1 := B.ne_ h.F.blk h1
  have e2 := B.ne_ h'.ring h2
  have e3 := B.ne_ h'.places h3
  simp; exact ⟨e1, e2, e3⟩
theorem pair_box2 {lo : Nat} {w : World} {f r pb m b t : Nat} {cs : List Value} {v : Value} {s : Flt} {q : RFlt} (h : Pair lo w f r pb m v s q) (B : Blk w b t cs) (h1 : t ≠ 30) (h2 : 226 ≠ t) : b ∉ m :: v.ownBlock.toList := by
  have e1 := B.ne_ h.R.blk h1
  have e2 := own_type h.R.row B h2
  simp only [List.mem_cons, not_or, Option.mem_toList]; exact ⟨e1, fun hb => e2 hb⟩
set_option maxHeartbeats 4000000 in
set_option maxRecDepth 100000 in
theorem act_calls {lo f r pb m : Nat} {v : Value} {s : Flt} {q : RFlt} (w : World) (h : Pair lo w f r pb m v s q) (hlo : lo ≤ w.heap.size) (hn : q.L.length + 1 ≤ 1000000) (p : Bool) (t x : Int) (ut : U64 t) :
    Calls Try.prog 15 #[.pointer (some ⟨f, 0, none⟩), .pointer (some ⟨m, 0, none⟩), .agg #[.bool p, .int .u64 t, .int .u64 x]] w fun e w' => e = .returned (.bool true) ∧ (∃ pb' v' s' q', Pair lo w' f r pb' m v' s' q' ∧ q'.L.length ≤ q.L.length + 1 ∧ q'.W = q.W) ∧ Below lo w w' := by
  go_enter Try.func15, Try.ntmps15
  have B0 := Blk.new w 33 [.bool p, .int .u64 t, .int .u64 x]
  have q0 := B0.cell 0
  simp only [List.getElem?_cons_zero] at q0
  by_cases ht' : t < s.now
  · have ht : t < s.now := ht'
    have htq : t < q.now := by rw [h.L.hnow]; exact ht
    clear ht'
    cases p with
    | true =>
      go_wp2_with (fail)
      refine wp_at (fun W => Blk W w.heap.size 33 [.bool true, .int .u64 t, .int .u64 x] ∧ Pair lo W f r pb m v s q ∧ Keeps [] w W) ?_ ?_
      · exact ⟨B0, h.keeps0 ((Keeps.refl [] w).alloc _), (Keeps.refl [] w).alloc _⟩
      rintro w1 ⟨B1, h1, K1⟩
      clear q0 B0 h
      generalize hb5 : w.heap.size = b5 at *
      have q1 := B1.cell 1
      have q2 := B1.cell 2
      simp only [List.getElem?_cons_zero, List.getElem?_cons_succ] at q1 q2
      refine start_ (n := 14) (S := fun w' => w'.cell? ⟨b5, 1, none⟩ = some (.int .u64 t) ∧ w'.cell? ⟨b5, 2, none⟩ = some (.int .u64 x)) (ds := []) #[false, false, false, false, false, false, false, false, false, false, false, false, false, false] (by kernel_rfl) rfl rfl ⟨q1, q2⟩ (fun hHeld => ?_)
      refine pure_ (i := 0) (N := some 9) (v := ?_) (a' := ?_) #[true, false, false, false, false, false, false, false, false, false, false, false, false, false] rfl rfl (by kernel_rfl) (fun _ _ _ h => h) (Or.inl ⟨by rfl, ?_⟩) ?_ ?_
      rotate_left
      · intro w'
        go_simp
        with_reducible rfl
      rotate_left
      · simp only [Act.put, List.setIfInBounds_toArray, List.set_cons_zero, List.set_cons_succ, i64_w, i32_w]
        rfl
      refine pure_ (i := 1) (N := some 10) (v := ?_) (a' := ?_) #[true, true, false, false, false, false, false, false, false, false, false, false, false, false] rfl rfl (by kernel_rfl) (fun _ _ _ h => h) (Or.inl ⟨by rfl, ?_⟩) ?_ ?_
      rotate_left
      · intro w'
        go_simp
        with_reducible rfl
      rotate_left
      · simp only [Act.put, List.setIfInBounds_toArray, List.set_cons_zero, List.set_cons_succ, i64_w, i32_w]
        rfl
      refine pure_ (i := 3) (N := some 12) (v := ?_) (a' := ?_) #[true, true, false, true, false, false, false, false, false, false, false, false, false, false] rfl rfl (by kernel_rfl) (fun _ _ _ h => h) (Or.inl ⟨by rfl, ?_⟩) ?_ ?_
      rotate_left
      · intro w'
        go_simp
        with_reducible rfl
      rotate_left
      · simp only [Act.put, List.setIfInBounds_toArray, List.set_cons_zero, List.set_cons_succ, i64_w, i32_w]
        rfl
      refine pure_ (i := 6) (N := some 15) (v := ?_) (a' := ?_) #[true, true, false, true, false, false, true, false, false, false, false, false, false, false] rfl rfl (by kernel_rfl) (fun _ _ _ h => h) (Or.inl ⟨by rfl, ?_⟩) ?_ ?_
      rotate_left
      · intro w'
        go_simp
        with_reducible rfl
      rotate_left
      · simp only [Act.put, List.setIfInBounds_toArray, List.set_cons_zero, List.set_cons_succ, i64_w, i32_w]
        rfl
      refine pure_ (i := 7) (N := some 16) (v := ?_) (a' := ?_) #[true, true, false, true, false, false, true, true, false, false, false, false, false, false] rfl rfl (by kernel_rfl) (fun _ _ _ h => h) (Or.inl ⟨by rfl, ?_⟩) ?_ ?_
      rotate_left
      · intro w'
        go_simp
        with_reducible rfl
      rotate_left
      · simp only [Act.put, List.setIfInBounds_toArray, List.set_cons_zero, List.set_cons_succ, i64_w, i32_w]
        rfl
      refine pure_ (i := 9) (N := some 18) (v := ?_) (a' := ?_) #[true, true, false, true, false, false, true, true, false, true, false, false, false, false] rfl rfl (by kernel_rfl) (fun _ _ _ h => h) (Or.inl ⟨by rfl, ?_⟩) ?_ ?_
      rotate_left
      · intro w'
        go_simp
        with_reducible rfl
      rotate_left
      · simp only [Act.put, List.setIfInBounds_toArray, List.set_cons_zero, List.set_cons_succ, i64_w, i32_w]
        rfl
      refine take_ (i := 2) (N := some 11) (v := ?_) (a' := ?_) #[true, true, true, true, false, false, true, true, false, true, false, false, false, false] rfl rfl (by kernel_rfl) (fun _ _ _ h => h) (Or.inl ⟨by rfl, ?_⟩) hHeld ?_ ?_
      rotate_left
      · rintro w' ⟨s0, s1⟩
        go_simp
        with_reducible rfl
      rotate_left
      · simp only [Act.put, List.setIfInBounds_toArray, List.set_cons_zero, List.set_cons_succ, i64_w, i32_w]
        rfl
      refine take_ (i := 4) (N := some 13) (v := ?_) (a' := ?_) #[true, true, true, true, true, false, true, true, false, true, false, false, false, false] rfl rfl (by kernel_rfl) (fun _ _ _ h => h) (Or.inl ⟨by rfl, ?_⟩) hHeld ?_ ?_
      rotate_left
      · rintro w' ⟨s0, s1⟩
        go_simp
        with_reducible rfl
      rotate_left
      · simp only [Act.put, List.setIfInBounds_toArray, List.set_cons_zero, List.set_cons_succ, i64_w, i32_w]
        rfl
      refine take_ (i := 8) (N := some 17) (v := ?_) (a' := ?_) #[true, true, true, true, true, false, true, true, true, true, false, false, false, false] rfl rfl (by kernel_rfl) (fun _ _ _ h => h) (Or.inl ⟨by rfl, ?_⟩) hHeld ?_ ?_
      rotate_left
      · rintro w' ⟨s0, s1⟩
        go_simp
        with_reducible rfl
      rotate_left
      · simp only [Act.put, List.setIfInBounds_toArray, List.set_cons_zero, List.set_cons_succ, i64_w, i32_w]
        rfl
      refine take_ (i := 10) (N := some 19) (v := ?_) (a' := ?_) #[true, true, true, true, true, false, true, true, true, true, true, false, false, false] rfl rfl (by kernel_rfl) (fun _ _ _ h => h) (Or.inl ⟨by rfl, ?_⟩) hHeld ?_ ?_
      rotate_left
      · rintro w' ⟨s0, s1⟩
        go_simp
        with_reducible rfl
      rotate_left
      · simp only [Act.put, List.setIfInBounds_toArray, List.set_cons_zero, List.set_cons_succ, i64_w, i32_w]
        rfl
      refine one_ (i := 5) (N := some 14) #[true, true, true, true, true, true, true, true, true, true, true, false, false, false] rfl rfl (by kernel_rfl) (by decide) (fun K hK => ?_)
      refine goes_ Try.func20 (by kernel_rfl) rfl #[.pointer (some ⟨f, 0, none⟩), .int .u64 t, .int .u64 x] (by rfl) rfl rfl (by simp only [List.map_toArray, List.map_cons, List.map_nil]; rfl) ?_
      with_reducible refine (put_back f r pb s t x w1.drew h1.drew.F ht).mono ?_
      rintro e w3 ⟨rfl, rfl⟩
      refine ⟨_, rfl, ?_⟩
      refine hK.out _ _ ⟨hHeld.1, hHeld.2⟩ (fun hHeld => ?_)
      clear hK K
      refine norm_ (a' := ?_) ?_ ?_
      rotate_left
      · show Act.put _ (some 14) _ = _
        simp only [Act.put, List.setIfInBounds_toArray, List.set_cons_zero, List.set_cons_succ, i64_w, i32_w]
        rfl
      refine one_ (i := 11) (N := some 20) #[true, true, true, true, true, true, true, true, true, true, true, true, false, false] rfl rfl (by kernel_rfl) (by decide) (fun K hK => ?_)
      refine goes_ Try.func75 (by kernel_rfl) rfl #[.pointer (some ⟨m, 0, none⟩), .int .u64 t, .int .u64 x] (by rfl) rfl rfl (by simp only [List.map_toArray, List.map_cons, List.map_nil]; rfl) ?_
      with_reducible refine (rput_back m v q t x w1.drew h1.drew.R htq).mono ?_
      rintro e w4 ⟨rfl, rfl⟩
      refine ⟨_, rfl, ?_⟩
      refine hK.out _ _ ⟨hHeld.1, hHeld.2⟩ (fun hHeld => ?_)
      clear hK K
      refine norm_ (a' := ?_) ?_ ?_
      rotate_left
      · show Act.put _ (some 20) _ = _
        simp only [Act.put, List.setIfInBounds_toArray, List.set_cons_zero, List.set_cons_succ, i64_w, i32_w]
        rfl
      refine pure_ (i := 12) (N := some 21) (v := ?_) (a' := ?_) #[true, true, true, true, true, true, true, true, true, true, true, true, true, false] rfl rfl (by kernel_rfl) (fun _ _ _ h => h) (Or.inl ⟨by rfl, ?_⟩) ?_ ?_
      rotate_left
      · intro w'
        go_simp
        with_reducible rfl
      rotate_left
      · simp only [Act.put, List.setIfInBounds_toArray, List.set_cons_zero, List.set_cons_succ, i64_w, i32_w]
        rfl
      refine pure_ (i := 13) (N := some 6) (v := ?_) (a' := ?_) #[true, true, true, true, true, true, true, true, true, true, true, true, true, true] rfl rfl (by kernel_rfl) (fun _ _ _ h => h) (Or.inl ⟨by rfl, ?_⟩) ?_ ?_
      rotate_left
      · intro w'
        go_simp
        with_reducible rfl
      rotate_left
      · simp only [Act.put, List.setIfInBounds_toArray, List.set_cons_zero, List.set_cons_succ, i64_w, i32_w]
        rfl
      refine done_ (by kernel_rfl) ?_

      go_wp2
      go_ret
      exact ⟨rfl, ⟨pb, v, s, q, h1.drew, by omega, rfl⟩, K1.drew.below (by omega) (by simp)⟩
    | false =>
      go_wp2_with (fail)
      refine wp_at (fun W => Blk W w.heap.size 33 [.bool false, .int .u64 t, .int .u64 x] ∧ Pair lo W f r pb m v s q ∧ Keeps [] w W) ?_ ?_
      · exact ⟨B0, h.keeps0 ((Keeps.refl [] w).alloc _), (Keeps.refl [] w).alloc _⟩
      rintro w1 ⟨B1, h1, K1⟩
      clear q0 B0 h
      generalize hb5 : w.heap.size = b5 at *
      have q1 := B1.cell 1
      simp only [List.getElem?_cons_zero, List.getElem?_cons_succ] at q1
      refine start_ (n := 10) (S := fun w' => w'.cell? ⟨b5, 1, none⟩ = some (.int .u64 t)) (ds := []) #[false, false, false, false, false, false, false, false, false, false] (by kernel_rfl) rfl rfl (q1) (fun hHeld => ?_)
      refine pure_ (i := 0) (N := some 22) (v := ?_) (a' := ?_) #[true, false, false, false, false, false, false, false, false, false] rfl rfl (by kernel_rfl) (fun _ _ _ h => h) (Or.inl ⟨by rfl, ?_⟩) ?_ ?_
      rotate_left
      · intro w'
        go_simp
        with_reducible rfl
      rotate_left
      · simp only [Act.put, List.setIfInBounds_toArray, List.set_cons_zero, List.set_cons_succ, i64_w, i32_w]
        rfl
      refine pure_ (i := 1) (N := some 23) (v := ?_) (a' := ?_) #[true, true, false, false, false, false, false, false, false, false] rfl rfl (by kernel_rfl) (fun _ _ _ h => h) (Or.inl ⟨by rfl, ?_⟩) ?_ ?_
      rotate_left
      · intro w'
        go_simp
        with_reducible rfl
      rotate_left
      · simp only [Act.put, List.setIfInBounds_toArray, List.set_cons_zero, List.set_cons_succ, i64_w, i32_w]
        rfl
      refine pure_ (i := 4) (N := some 26) (v := ?_) (a' := ?_) #[true, true, false, false, true, false, false, false, false, false] rfl rfl (by kernel_rfl) (fun _ _ _ h => h) (Or.inl ⟨by rfl, ?_⟩) ?_ ?_
      rotate_left
      · intro w'
        go_simp
        with_reducible rfl
      rotate_left
      · simp only [Act.put, List.setIfInBounds_toArray, List.set_cons_zero, List.set_cons_succ, i64_w, i32_w]
        rfl
      refine pure_ (i := 5) (N := some 27) (v := ?_) (a' := ?_) #[true, true, false, false, true, true, false, false, false, false] rfl rfl (by kernel_rfl) (fun _ _ _ h => h) (Or.inl ⟨by rfl, ?_⟩) ?_ ?_
      rotate_left
      · intro w'
        go_simp
        with_reducible rfl
      rotate_left
      · simp only [Act.put, List.setIfInBounds_toArray, List.set_cons_zero, List.set_cons_succ, i64_w, i32_w]
        rfl
      refine take_ (i := 2) (N := some 24) (v := ?_) (a' := ?_) #[true, true, true, false, true, true, false, false, false, false] rfl rfl (by kernel_rfl) (fun _ _ _ h => h) (Or.inl ⟨by rfl, ?_⟩) hHeld ?_ ?_
      rotate_left
      · intro w' s0
        go_simp
        with_reducible rfl
      rotate_left
      · simp only [Act.put, List.setIfInBounds_toArray, List.set_cons_zero, List.set_cons_succ, i64_w, i32_w]
        rfl
      refine take_ (i := 6) (N := some 28) (v := ?_) (a' := ?_) #[true, true, true, false, true, true, true, false, false, false] rfl rfl (by kernel_rfl) (fun _ _ _ h => h) (Or.inl ⟨by rfl, ?_⟩) hHeld ?_ ?_
      rotate_left
      · intro w' s0
        go_simp
        with_reducible rfl
      rotate_left
      · simp only [Act.put, List.setIfInBounds_toArray, List.set_cons_zero, List.set_cons_succ, i64_w, i32_w]
        rfl
      refine one_ (i := 3) (N := some 25) #[true, true, true, true, true, true, true, false, false, false] rfl rfl (by kernel_rfl) (by decide) (fun K hK => ?_)
      refine goes_ Try.func19 (by kernel_rfl) rfl #[.pointer (some ⟨f, 0, none⟩), .int .u64 t] (by rfl) rfl rfl (by simp only [List.map_toArray, List.map_cons, List.map_nil]; rfl) ?_
      with_reducible refine (to_back f r pb s t w1.drew h1.drew.F ht).mono ?_
      rintro e w3 ⟨rfl, rfl⟩
      refine ⟨_, rfl, ?_⟩
      refine hK.out _ _ (hHeld) (fun hHeld => ?_)
      clear hK K
      refine norm_ (a' := ?_) ?_ ?_
      rotate_left
      · show Act.put _ (some 25) _ = _
        simp only [Act.put, List.setIfInBounds_toArray, List.set_cons_zero, List.set_cons_succ, i64_w, i32_w]
        rfl
      refine one_ (i := 7) (N := some 29) #[true, true, true, true, true, true, true, true, false, false] rfl rfl (by kernel_rfl) (by decide) (fun K hK => ?_)
      refine goes_ Try.func76 (by kernel_rfl) rfl #[.pointer (some ⟨m, 0, none⟩), .int .u64 t] (by rfl) rfl rfl (by simp only [List.map_toArray, List.map_cons, List.map_nil]; rfl) ?_
      with_reducible refine (rto_back m v q t w1.drew h1.drew.R htq).mono ?_
      rintro e w4 ⟨rfl, rfl⟩
      refine ⟨_, rfl, ?_⟩
      refine hK.out _ _ (hHeld) (fun hHeld => ?_)
      clear hK K
      refine norm_ (a' := ?_) ?_ ?_
      rotate_left
      · show Act.put _ (some 29) _ = _
        simp only [Act.put, List.setIfInBounds_toArray, List.set_cons_zero, List.set_cons_succ, i64_w, i32_w]
        rfl
      refine pure_ (i := 8) (N := some 30) (v := ?_) (a' := ?_) #[true, true, true, true, true, true, true, true, true, false] rfl rfl (by kernel_rfl) (fun _ _ _ h => h) (Or.inl ⟨by rfl, ?_⟩) ?_ ?_
      rotate_left
      · intro w'
        go_simp
        with_reducible rfl
      rotate_left
      · simp only [Act.put, List.setIfInBounds_toArray, List.set_cons_zero, List.set_cons_succ, i64_w, i32_w]
        rfl
      refine pure_ (i := 9) (N := some 6) (v := ?_) (a' := ?_) #[true, true, true, true, true, true, true, true, true, true] rfl rfl (by kernel_rfl) (fun _ _ _ h => h) (Or.inl ⟨by rfl, ?_⟩) ?_ ?_
      rotate_left
      · intro w'
        go_simp
        with_reducible rfl
      rotate_left
      · simp only [Act.put, List.setIfInBounds_toArray, List.set_cons_zero, List.set_cons_succ, i64_w, i32_w]
        rfl
      refine done_ (by kernel_rfl) ?_

      go_wp2
      go_ret
      exact ⟨rfl, ⟨pb, v, s, q, h1.drew, by omega, rfl⟩, K1.drew.below (by omega) (by simp)⟩
  · have ht : s.now ≤ t := by omega
    have htq : q.now ≤ t := by rw [h.L.hnow]; exact ht
    clear ht'
    cases p with
    | true =>
      go_wp2_with (fail)
      refine wp_at (fun W => Blk W w.heap.size 33 [.bool true, .int .u64 t, .int .u64 x] ∧ Pair lo W f r pb m v s q ∧ Keeps [] w W) ?_ ?_
      · exact ⟨B0, h.keeps0 ((Keeps.refl [] w).alloc _), (Keeps.refl [] w).alloc _⟩
      rintro w1 ⟨B1, h1, K1⟩
      clear q0 B0 h
      have hlo1 : lo ≤ w1.heap.size := Nat.le_trans hlo K1.size
      have hbF := pair_box1 h1 B1 (by decide) (by decide) (by decide)
      have hbR := pair_box2 h1 B1 (by decide) (by decide)
      have hs1 : Hid (w.heap.size ≤ w1.heap.size) := K1.size
      generalize hb5 : w.heap.size = b5 at *
      have q1 := B1.cell 1
      have q2 := B1.cell 2
      simp only [List.getElem?_cons_zero, List.getElem?_cons_succ] at q1 q2
      refine start_ (n := 14) (S := fun w' => w'.cell? ⟨b5, 1, none⟩ = some (.int .u64 t) ∧ w'.cell? ⟨b5, 2, none⟩ = some (.int .u64 x)) (ds := []) #[false, false, false, false, false, false, false, false, false, false, false, false, false, false] (by kernel_rfl) rfl rfl ⟨q1, q2⟩ (fun hHeld => ?_)
      refine pure_ (i := 0) (N := some 9) (v := ?_) (a' := ?_) #[true, false, false, false, false, false, false, false, false, false, false, false, false, false] rfl rfl (by kernel_rfl) (fun _ _ _ h => h) (Or.inl ⟨by rfl, ?_⟩) ?_ ?_
      rotate_left
      · intro w'
        go_simp
        with_reducible rfl
      rotate_left
      · simp only [Act.put, List.setIfInBounds_toArray, List.set_cons_zero, List.set_cons_succ, i64_w, i32_w]
        rfl
      refine pure_ (i := 1) (N := some 10) (v := ?_) (a' := ?_) #[true, true, false, false, false, false, false, false, false, false, false, false, false, false] rfl rfl (by kernel_rfl) (fun _ _ _ h => h) (Or.inl ⟨by rfl, ?_⟩) ?_ ?_
      rotate_left
      · intro w'
        go_simp
        with_reducible rfl
      rotate_left
      · simp only [Act.put, List.setIfInBounds_toArray, List.set_cons_zero, List.set_cons_succ, i64_w, i32_w]
        rfl
      refine pure_ (i := 3) (N := some 12) (v := ?_) (a' := ?_) #[true, true, false, true, false, false, false, false, false, false, false, false, false, false] rfl rfl (by kernel_rfl) (fun _ _ _ h => h) (Or.inl ⟨by rfl, ?_⟩) ?_ ?_
      rotate_left
      · intro w'
        go_simp
        with_reducible rfl
      rotate_left
      · simp only [Act.put, List.setIfInBounds_toArray, List.set_cons_zero, List.set_cons_succ, i64_w, i32_w]
        rfl
      refine pure_ (i := 6) (N := some 15) (v := ?_) (a' := ?_) #[true, true, false, true, false, false, true, false, false, false, false, false, false, false] rfl rfl (by kernel_rfl) (fun _ _ _ h => h) (Or.inl ⟨by rfl, ?_⟩) ?_ ?_
      rotate_left
      · intro w'
        go_simp
        with_reducible rfl
      rotate_left
      · simp only [Act.put, List.setIfInBounds_toArray, List.set_cons_zero, List.set_cons_succ, i64_w, i32_w]
        rfl
      refine pure_ (i := 7) (N := some 16) (v := ?_) (a' := ?_) #[true, true, false, true, false, false, true, true, false, false, false, false, false, false] rfl rfl (by kernel_rfl) (fun _ _ _ h => h) (Or.inl ⟨by rfl, ?_⟩) ?_ ?_
      rotate_left
      · intro w'
        go_simp
        with_reducible rfl
      rotate_left
      · simp only [Act.put, List.setIfInBounds_toArray, List.set_cons_zero, List.set_cons_succ, i64_w, i32_w]
        rfl
      refine pure_ (i := 9) (N := some 18) (v := ?_) (a' := ?_) #[true, true, false, true, false, false, true, true, false, true, false, false, false, false] rfl rfl (by kernel_rfl) (fun _ _ _ h => h) (Or.inl ⟨by rfl, ?_⟩) ?_ ?_
      rotate_left
      · intro w'
        go_simp
        with_reducible rfl
      rotate_left
      · simp only [Act.put, List.setIfInBounds_toArray, List.set_cons_zero, List.set_cons_succ, i64_w, i32_w]
        rfl
      refine take_ (i := 2) (N := some 11) (v := ?_) (a' := ?_) #[true, true, true, true, false, false, true, true, false, true, false, false, false, false] rfl rfl (by kernel_rfl) (fun _ _ _ h => h) (Or.inl ⟨by rfl, ?_⟩) hHeld ?_ ?_
      rotate_left
      · rintro w' ⟨s0, s1⟩
        go_simp
        with_reducible rfl
      rotate_left
      · simp only [Act.put, List.setIfInBounds_toArray, List.set_cons_zero, List.set_cons_succ, i64_w, i32_w]
        rfl
      refine take_ (i := 4) (N := some 13) (v := ?_) (a' := ?_) #[true, true, true, true, true, false, true, true, false, true, false, false, false, false] rfl rfl (by kernel_rfl) (fun _ _ _ h => h) (Or.inl ⟨by rfl, ?_⟩) hHeld ?_ ?_
      rotate_left
      · rintro w' ⟨s0, s1⟩
        go_simp
        with_reducible rfl
      rotate_left
      · simp only [Act.put, List.setIfInBounds_toArray, List.set_cons_zero, List.set_cons_succ, i64_w, i32_w]
        rfl
      refine take_ (i := 8) (N := some 17) (v := ?_) (a' := ?_) #[true, true, true, true, true, false, true, true, true, true, false, false, false, false] rfl rfl (by kernel_rfl) (fun _ _ _ h => h) (Or.inl ⟨by rfl, ?_⟩) hHeld ?_ ?_
      rotate_left
      · rintro w' ⟨s0, s1⟩
        go_simp
        with_reducible rfl
      rotate_left
      · simp only [Act.put, List.setIfInBounds_toArray, List.set_cons_zero, List.set_cons_succ, i64_w, i32_w]
        rfl
      refine take_ (i := 10) (N := some 19) (v := ?_) (a' := ?_) #[true, true, true, true, true, false, true, true, true, true, true, false, false, false] rfl rfl (by kernel_rfl) (fun _ _ _ h => h) (Or.inl ⟨by rfl, ?_⟩) hHeld ?_ ?_
      rotate_left
      · rintro w' ⟨s0, s1⟩
        go_simp
        with_reducible rfl
      rotate_left
      · simp only [Act.put, List.setIfInBounds_toArray, List.set_cons_zero, List.set_cons_succ, i64_w, i32_w]
        rfl
      refine one_ (i := 5) (N := some 14) #[true, true, true, true, true, true, true, true, true, true, true, false, false, false] rfl rfl (by kernel_rfl) (by decide) (fun K hK => ?_)
      refine goes_ Try.func20 (by kernel_rfl) rfl #[.pointer (some ⟨f, 0, none⟩), .int .u64 t, .int .u64 x] (by rfl) rfl rfl (by simp only [List.map_toArray, List.map_cons, List.map_nil]; rfl) ?_
      with_reducible refine (put_on f r pb s t x w1.drew h1.drew.F ht h1.L.uW h1.L.ux (by have := h1.L.len; omega)).mono ?_
      rintro e w3 ⟨rfl, ⟨pb', hF3, hpb3⟩, k3⟩
      refine ⟨_, rfl, ?_⟩
      refine hK.out _ _ ⟨((k3.cell (p := ⟨b5, 1, none⟩) (World.block_lt_of_cell? _ _ hHeld.1) hbF).trans hHeld.1), ((k3.cell (p := ⟨b5, 2, none⟩) (World.block_lt_of_cell? _ _ hHeld.2) hbF).trans hHeld.2)⟩ (fun hHeld => ?_)
      clear hK K
      refine norm_ (a' := ?_) ?_ ?_
      rotate_left
      · show Act.put _ (some 14) _ = _
        simp only [Act.put, List.setIfInBounds_toArray, List.set_cons_zero, List.set_cons_succ, i64_w, i32_w]
        rfl
      refine one_ (i := 11) (N := some 20) #[true, true, true, true, true, true, true, true, true, true, true, true, false, false] rfl rfl (by kernel_rfl) (by decide) (fun K hK => ?_)
      refine goes_ Try.func75 (by kernel_rfl) rfl #[.pointer (some ⟨m, 0, none⟩), .int .u64 t, .int .u64 x] (by rfl) rfl rfl (by simp only [List.map_toArray, List.map_cons, List.map_nil]; rfl) ?_
      with_reducible refine (rput_on m v q t x w3 (h1.drew.R.keeps k3 h1.nf h1.nv) htq (by omega)).mono ?_
      rintro e w4 ⟨rfl, ⟨v', hR4, hv4⟩, k4⟩
      refine ⟨_, rfl, ?_⟩
      refine hK.out _ _ ⟨((k4.cell (p := ⟨b5, 1, none⟩) (World.block_lt_of_cell? _ _ hHeld.1) hbR).trans hHeld.1), ((k4.cell (p := ⟨b5, 2, none⟩) (World.block_lt_of_cell? _ _ hHeld.2) hbR).trans hHeld.2)⟩ (fun hHeld => ?_)
      clear hK K
      refine norm_ (a' := ?_) ?_ ?_
      rotate_left
      · show Act.put _ (some 20) _ = _
        simp only [Act.put, List.setIfInBounds_toArray, List.set_cons_zero, List.set_cons_succ, i64_w, i32_w]
        rfl
      refine pure_ (i := 12) (N := some 21) (v := ?_) (a' := ?_) #[true, true, true, true, true, true, true, true, true, true, true, true, true, false] rfl rfl (by kernel_rfl) (fun _ _ _ h => h) (Or.inl ⟨by rfl, ?_⟩) ?_ ?_
      rotate_left
      · intro w'
        go_simp
        with_reducible rfl
      rotate_left
      · simp only [Act.put, List.setIfInBounds_toArray, List.set_cons_zero, List.set_cons_succ, i64_w, i32_w]
        rfl
      refine pure_ (i := 13) (N := some 6) (v := ?_) (a' := ?_) #[true, true, true, true, true, true, true, true, true, true, true, true, true, true] rfl rfl (by kernel_rfl) (fun _ _ _ h => h) (Or.inl ⟨by rfl, ?_⟩) ?_ ?_
      rotate_left
      · intro w'
        go_simp
        with_reducible rfl
      rotate_left
      · simp only [Act.put, List.setIfInBounds_toArray, List.set_cons_zero, List.set_cons_succ, i64_w, i32_w]
        rfl
      refine done_ (by kernel_rfl) ?_

      go_wp2
      go_ret
      have R3 := h1.drew.R.keeps k3 h1.nf h1.nv
      have sn := sep_n hF3 R3
      have hlo3 : lo ≤ w3.heap.size := Nat.le_trans hlo1 k3.size
      have hpl : lo ≤ pb' := by
        rcases hpb3 with rfl | hp
        · exact h1.lp
        · exact Nat.le_trans hlo1 hp
      refine ⟨rfl, ⟨pb', v', _, _, ⟨hF3.keeps k4 sn.1 sn.2.1 sn.2.2, hR4, h1.L.put ht ut x, h1.lf, h1.lr, hpl, h1.lm, ?_⟩, by simp, rfl⟩, ?_⟩
      · intro b hb
        rcases hv4 with hv | ⟨b', hb', hl⟩
        · exact h1.lv b (hv ▸ hb)
        · rw [hb'] at hb; cases hb; omega
      · have k34 : Keeps (f :: r :: pb :: m :: v.ownBlock.toList) w w4 := ((K1.drew.mono (by simp)).trans k3 (by intro c hc; left; simp at hc ⊢; rcases hc with h | h | h <;> simp [h])).trans k4 (by intro c hc; left; simp at hc ⊢; rcases hc with h | h <;> simp [h])
        refine k34.below (by omega) ?_
        intro c hc; simp at hc
        rcases hc with h | h | h | h | h
        · rw [h]; exact h1.lf
        · rw [h]; exact h1.lr
        · rw [h]; exact h1.lp
        · rw [h]; exact h1.lm
        · exact h1.lv _ h
    | false =>
      go_wp2_with (fail)
      refine wp_at (fun W => Blk W w.heap.size 33 [.bool false, .int .u64 t, .int .u64 x] ∧ Pair lo W f r pb m v s q ∧ Keeps [] w W) ?_ ?_
      · exact ⟨B0, h.keeps0 ((Keeps.refl [] w).alloc _), (Keeps.refl [] w).alloc _⟩
      rintro w1 ⟨B1, h1, K1⟩
      clear q0 B0 h
      have hlo1 : lo ≤ w1.heap.size := Nat.le_trans hlo K1.size
      have hbF := pair_box1 h1 B1 (by decide) (by decide) (by decide)
      have hbR := pair_box2 h1 B1 (by decide) (by decide)
      generalize hb5 : w.heap.size = b5 at *
      have q1 := B1.cell 1
      simp only [List.getElem?_cons_zero, List.getElem?_cons_succ] at q1
      refine start_ (n := 10) (S := fun w' => w'.cell? ⟨b5, 1, none⟩ = some (.int .u64 t)) (ds := []) #[false, false, false, false, false, false, false, false, false, false] (by kernel_rfl) rfl rfl (q1) (fun hHeld => ?_)
      refine pure_ (i := 0) (N := some 22) (v := ?_) (a' := ?_) #[true, false, false, false, false, false, false, false, false, false] rfl rfl (by kernel_rfl) (fun _ _ _ h => h) (Or.inl ⟨by rfl, ?_⟩) ?_ ?_
      rotate_left
      · intro w'
        go_simp
        with_reducible rfl
      rotate_left
      · simp only [Act.put, List.setIfInBounds_toArray, List.set_cons_zero, List.set_cons_succ, i64_w, i32_w]
        rfl
      refine pure_ (i := 1) (N := some 23) (v := ?_) (a' := ?_) #[true, true, false, false, false, false, false, false, false, false] rfl rfl (by kernel_rfl) (fun _ _ _ h => h) (Or.inl ⟨by rfl, ?_⟩) ?_ ?_
      rotate_left
      · intro w'
        go_simp
        with_reducible rfl
      rotate_left
      · simp only [Act.put, List.setIfInBounds_toArray, List.set_cons_zero, List.set_cons_succ, i64_w, i32_w]
        rfl
      refine pure_ (i := 4) (N := some 26) (v := ?_) (a' := ?_) #[true, true, false, false, true, false, false, false, false, false] rfl rfl (by kernel_rfl) (fun _ _ _ h => h) (Or.inl ⟨by rfl, ?_⟩) ?_ ?_
      rotate_left
      · intro w'
        go_simp
        with_reducible rfl
      rotate_left
      · simp only [Act.put, List.setIfInBounds_toArray, List.set_cons_zero, List.set_cons_succ, i64_w, i32_w]
        rfl
      refine pure_ (i := 5) (N := some 27) (v := ?_) (a' := ?_) #[true, true, false, false, true, true, false, false, false, false] rfl rfl (by kernel_rfl) (fun _ _ _ h => h) (Or.inl ⟨by rfl, ?_⟩) ?_ ?_
      rotate_left
      · intro w'
        go_simp
        with_reducible rfl
      rotate_left
      · simp only [Act.put, List.setIfInBounds_toArray, List.set_cons_zero, List.set_cons_succ, i64_w, i32_w]
        rfl
      refine take_ (i := 2) (N := some 24) (v := ?_) (a' := ?_) #[true, true, true, false, true, true, false, false, false, false] rfl rfl (by kernel_rfl) (fun _ _ _ h => h) (Or.inl ⟨by rfl, ?_⟩) hHeld ?_ ?_
      rotate_left
      · intro w' s0
        go_simp
        with_reducible rfl
      rotate_left
      · simp only [Act.put, List.setIfInBounds_toArray, List.set_cons_zero, List.set_cons_succ, i64_w, i32_w]
        rfl
      refine take_ (i := 6) (N := some 28) (v := ?_) (a' := ?_) #[true, true, true, false, true, true, true, false, false, false] rfl rfl (by kernel_rfl) (fun _ _ _ h => h) (Or.inl ⟨by rfl, ?_⟩) hHeld ?_ ?_
      rotate_left
      · intro w' s0
        go_simp
        with_reducible rfl
      rotate_left
      · simp only [Act.put, List.setIfInBounds_toArray, List.set_cons_zero, List.set_cons_succ, i64_w, i32_w]
        rfl
      refine one_ (i := 3) (N := some 25) #[true, true, true, true, true, true, true, false, false, false] rfl rfl (by kernel_rfl) (by decide) (fun K hK => ?_)
      refine goes_ Try.func19 (by kernel_rfl) rfl #[.pointer (some ⟨f, 0, none⟩), .int .u64 t] (by rfl) rfl rfl (by simp only [List.map_toArray, List.map_cons, List.map_nil]; rfl) ?_
      with_reducible refine (to_on f r pb s t w1.drew h1.drew.F ht h1.L.uW h1.L.ux).mono ?_
      rintro e w3 ⟨rfl, hF3, k3⟩
      refine ⟨_, rfl, ?_⟩
      refine hK.out _ _ (((k3.cell (p := ⟨b5, 1, none⟩) (World.block_lt_of_cell? _ _ hHeld) hbF).trans hHeld)) (fun hHeld => ?_)
      clear hK K
      refine norm_ (a' := ?_) ?_ ?_
      rotate_left
      · show Act.put _ (some 25) _ = _
        simp only [Act.put, List.setIfInBounds_toArray, List.set_cons_zero, List.set_cons_succ, i64_w, i32_w]
        rfl
      refine one_ (i := 7) (N := some 29) #[true, true, true, true, true, true, true, true, false, false] rfl rfl (by kernel_rfl) (by decide) (fun K hK => ?_)
      refine goes_ Try.func76 (by kernel_rfl) rfl #[.pointer (some ⟨m, 0, none⟩), .int .u64 t] (by rfl) rfl rfl (by simp only [List.map_toArray, List.map_cons, List.map_nil]; rfl) ?_
      with_reducible refine (rto_on m v q t w3 (h1.drew.R.keeps k3 h1.nf h1.nv) htq).mono ?_
      rintro e w4 ⟨rfl, hR4, k4⟩
      refine ⟨_, rfl, ?_⟩
      refine hK.out _ _ (((k4.cell (p := ⟨b5, 1, none⟩) (World.block_lt_of_cell? _ _ hHeld) (fun hh => hbR (by simp at hh; simp [hh]))).trans hHeld)) (fun hHeld => ?_)
      clear hK K
      refine norm_ (a' := ?_) ?_ ?_
      rotate_left
      · show Act.put _ (some 29) _ = _
        simp only [Act.put, List.setIfInBounds_toArray, List.set_cons_zero, List.set_cons_succ, i64_w, i32_w]
        rfl
      refine pure_ (i := 8) (N := some 30) (v := ?_) (a' := ?_) #[true, true, true, true, true, true, true, true, true, false] rfl rfl (by kernel_rfl) (fun _ _ _ h => h) (Or.inl ⟨by rfl, ?_⟩) ?_ ?_
      rotate_left
      · intro w'
        go_simp
        with_reducible rfl
      rotate_left
      · simp only [Act.put, List.setIfInBounds_toArray, List.set_cons_zero, List.set_cons_succ, i64_w, i32_w]
        rfl
      refine pure_ (i := 9) (N := some 6) (v := ?_) (a' := ?_) #[true, true, true, true, true, true, true, true, true, true] rfl rfl (by kernel_rfl) (fun _ _ _ h => h) (Or.inl ⟨by rfl, ?_⟩) ?_ ?_
      rotate_left
      · intro w'
        go_simp
        with_reducible rfl
      rotate_left
      · simp only [Act.put, List.setIfInBounds_toArray, List.set_cons_zero, List.set_cons_succ, i64_w, i32_w]
        rfl
      refine done_ (by kernel_rfl) ?_

      go_wp2
      go_ret
      have R3 := h1.drew.R.keeps k3 h1.nf h1.nv
      have sn := sep_n hF3 R3
      refine ⟨rfl, ⟨pb, v, _, _, ⟨hF3.keeps k4 (fun hh => sn.1 (by simp at hh; simp [hh])) (fun hh => sn.2.1 (by simp at hh; simp [hh])) (fun hh => sn.2.2 (by simp at hh; simp [hh])), hR4, h1.L.to ht ut, h1.lf, h1.lr, h1.lp, h1.lm, h1.lv⟩, by simp, rfl⟩, ?_⟩
      have k34 : Keeps [f, r, pb, m] w w4 := ((K1.drew.mono (by simp)).trans k3 (by intro c hc; left; simp at hc ⊢; rcases hc with h | h | h <;> simp [h])).trans k4 (by intro c hc; left; simp at hc ⊢; simp [hc])
      refine k34.below (by omega) ?_
      intro c hc; simp at hc
      rcases hc with h | h | h | h
      · rw [h]; exact h1.lf
      · rw [h]; exact h1.lr
      · rw [h]; exact h1.lp
      · rw [h]; exact h1.lm
end Go.Proofs.Ytaceikdmepeoiaa
