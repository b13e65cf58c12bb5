/- filt.Filter: Put. -/
import Derived.Test.YtaceikdmepeoiaaFiltC
namespace Go.Proofs.Ytaceikdmepeoiaa
set_option linter.unusedSimpArgs false
set_option linter.unusedVariables false
open Go.RowKit Go.Proofs.YtaceikdmepeoiaaW.PrintLast
def popw (l : Bool) (x : Int) (xs : List Rdg) : List Rdg := (xs.reverse.dropWhile (fun e => !better l e.x x)).reverse
theorem popw_nil (l : Bool) (x : Int) : popw l x [] = [] := rfl
theorem popw_stop {l : Bool} {x : Int} {zs : List Rdg} {a : Rdg} (h : better l a.x x = true) : popw l x (zs ++ [a]) = zs ++ [a] := by
  unfold popw; rw [List.reverse_append, List.reverse_singleton, List.singleton_append, List.dropWhile_cons_of_neg (by rw [h]; simp)]; simp
theorem popw_go {l : Bool} {x : Int} {zs : List Rdg} {a : Rdg} (h : better l a.x x = false) : popw l x (zs ++ [a]) = popw l x zs := by
  unfold popw; rw [List.reverse_append, List.reverse_singleton, List.singleton_append, List.dropWhile_cons_of_pos (by rw [h]; rfl)]
theorem snoc_cases {α : Type} (l : List α) : l = [] ∨ ∃ zs a, l = zs ++ [a] := by
  rcases List.eq_nil_or_concat l with h | ⟨zs, a, h⟩
  · exact .inl h
  · exact .inr ⟨zs, a, by simpa using h⟩
theorem put_nil (t x : Int) (w : World) : Calls Try.prog 20 #[.pointer none, .int .u64 t, .int .u64 x] w fun e w' => e = .returned (.int .i64 1) ∧ w' = w := by
  go_enter Try.func20, Try.ntmps20
  go_wp2_with (go_at_call 19; refine (to_nil t _).mono ?_; rintro e w' ⟨rfl, rfl⟩)
  go_ret
  exact ⟨rfl, rfl⟩
theorem put_back (f r pb : Nat) (s : Flt) (t x : Int) (w : World) (h : FiltAt w f r pb s) (ht : t < s.now) :
    Calls Try.prog 20 #[.pointer (some ⟨f, 0, none⟩), .int .u64 t, .int .u64 x] w fun e w' => e = .returned (.int .i64 2) ∧ w' = w := by
  go_enter Try.func20, Try.ntmps20
  go_wp2_with (go_at_call 19; refine (to_back f r pb s t _ h ht).mono ?_; rintro e w' ⟨rfl, rfl⟩)
  go_ret
  exact ⟨rfl, rfl⟩
set_option maxHeartbeats 2000000 in
set_option maxRecDepth 100000 in
theorem put_on (f r pb : Nat) (s : Flt) (t x : Int) (w : World) (h : FiltAt w f r pb s) (ht : s.now ≤ t) (hW : U64 s.W) (hu : ∀ e ∈ s.xs, U64 e.t) (hn : s.xs.length ≤ 1000000) :
    Calls Try.prog 20 #[.pointer (some ⟨f, 0, none⟩), .int .u64 t, .int .u64 x] w fun e w' => e = .returned (.int .i64 0) ∧
      (∃ pb', FiltAt w' f r pb' ⟨s.W, t, s.least, popw s.least x (prune s.W t s.xs) ++ [⟨t, x⟩]⟩ ∧ (pb' = pb ∨ w.heap.size ≤ pb')) ∧ Keeps [f, r, pb] w w' := by
  obtain ⟨win, now, lst, xs0⟩ := s
  dsimp only at ht hW hu hn ⊢
  have hto := to_on f r pb _ t w h ht hW hu
  dsimp only at hto
  have hpl : (prune win t xs0).length ≤ 1000000 := Nat.le_trans (List.Sublist.length_le (List.dropWhile_sublist _)) hn
  generalize prune win t xs0 = xs1 at *
  go_enter Try.func20, Try.ntmps20
  go_wp2_with (fail)
  refine hto.mono ?_
  rintro e W1 ⟨rfl, H1, K1⟩
  clear hto h hu hn
  go_wp2_with (fail)
  go_loopw [10] (fun _ wr => ∃ ys, FiltAt wr f r pb ⟨win, t, lst, ys⟩ ∧ popw lst x ys = popw lst x xs1 ∧ ys.length ≤ 1000000 ∧ Keeps [f, r, pb] w wr) (fun _ wr => ringLen wr r)
  case atStart => exact ⟨xs1, H1, rfl, hpl, K1⟩
  case round =>
    obtain ⟨ys, H, hpr, hys, K⟩ := hrel
    have HP : Hid (popw lst x ys = popw lst x xs1) := hpr
    clear hpr H1 K1 W1 hpl
    have g0 := H.c0
    have g2 := H.row.c2
    have hfl := H.blk.lt
    have hrl := H.row.lt
    rcases snoc_cases ys with rfl | ⟨zs, a, rfl⟩
    · have c1 : IntKind.i64.wrap (-1) = -1 := rfl
      go_wp2_with (fail)
      refine start_ (n := 17) (S := fun w' => w'.cell? ⟨f, 0, none⟩ = some (.pointer (some ⟨r, 0, none⟩)) ∧ w'.cell? ⟨r, 2, none⟩ = some (.int .i64 0) ∧ Keeps [] wr w') (ds := [15]) #[false, false, false, false, false, false, false, false, false, false, false, false, false, false, false, false, false] (by kernel_rfl) rfl rfl ⟨g0, g2.trans rfl, (Keeps.refl [] wr).drew⟩ (fun hHeld => ?_)
      refine pure_ (i := 0) (N := some 20) (v := ?_) (a' := ?_) #[true, false, false, false, false, false, false, false, false, false, false, false, false, false, false, false, false] rfl rfl (by kernel_rfl) (fun _ _ _ h => h) (Or.inl ⟨by rfl, ?_⟩) ?_ ?_
      rotate_left
      · intro w'
        go_simp
        with_reducible rfl
      rotate_left
      · simp only [Act.put, List.setIfInBounds_toArray, List.set_cons_zero, List.set_cons_succ, i64_w, i32_w]
        rfl
      refine pure_ (i := 1) (N := some 21) (v := ?_) (a' := ?_) #[true, true, false, false, false, false, false, false, false, false, false, false, false, false, false, false, false] rfl rfl (by kernel_rfl) (fun _ _ _ h => h) (Or.inl ⟨by rfl, ?_⟩) ?_ ?_
      rotate_left
      · intro w'
        go_simp
        with_reducible rfl
      rotate_left
      · simp only [Act.put, List.setIfInBounds_toArray, List.set_cons_zero, List.set_cons_succ, i64_w, i32_w]
        rfl
      refine pure_ (i := 2) (N := some 22) (v := ?_) (a' := ?_) #[true, true, true, false, false, false, false, false, false, false, false, false, false, false, false, false, false] rfl rfl (by kernel_rfl) (fun _ _ _ h => h) (Or.inl ⟨by rfl, ?_⟩) ?_ ?_
      rotate_left
      · intro w'
        go_simp
        with_reducible rfl
      rotate_left
      · simp only [Act.put, List.setIfInBounds_toArray, List.set_cons_zero, List.set_cons_succ, i64_w, i32_w]
        rfl
      refine pure_ (i := 4) (N := some 24) (v := ?_) (a' := ?_) #[true, true, true, false, true, false, false, false, false, false, false, false, false, false, false, false, false] rfl rfl (by kernel_rfl) (fun _ _ _ h => h) (Or.inl ⟨by rfl, ?_⟩) ?_ ?_
      rotate_left
      · intro w'
        go_simp
        with_reducible rfl
      rotate_left
      · simp only [Act.put, List.setIfInBounds_toArray, List.set_cons_zero, List.set_cons_succ, i64_w, i32_w]
        rfl
      refine pure_ (i := 5) (N := some 25) (v := ?_) (a' := ?_) #[true, true, true, false, true, true, false, false, false, false, false, false, false, false, false, false, false] rfl rfl (by kernel_rfl) (fun _ _ _ h => h) (Or.inl ⟨by rfl, ?_⟩) ?_ ?_
      rotate_left
      · intro w'
        go_simp
        with_reducible rfl
      rotate_left
      · simp only [Act.put, List.setIfInBounds_toArray, List.set_cons_zero, List.set_cons_succ, i64_w, i32_w]
        rfl
      refine pure_ (i := 6) (N := some 26) (v := ?_) (a' := ?_) #[true, true, true, false, true, true, true, false, false, false, false, false, false, false, false, false, false] rfl rfl (by kernel_rfl) (fun _ _ _ h => h) (Or.inl ⟨by rfl, ?_⟩) ?_ ?_
      rotate_left
      · intro w'
        go_simp
        with_reducible rfl
      rotate_left
      · simp only [Act.put, List.setIfInBounds_toArray, List.set_cons_zero, List.set_cons_succ, i64_w, i32_w]
        rfl
      refine take_ (i := 3) (N := some 23) (v := ?_) (a' := ?_) #[true, true, true, true, true, true, true, false, false, false, false, false, false, false, false, false, false] rfl rfl (by kernel_rfl) (fun _ _ _ h => h) (Or.inl ⟨by rfl, ?_⟩) hHeld ?_ ?_
      rotate_left
      · rintro w' ⟨s0, s1, s2⟩
        go_simp
        with_reducible rfl
      rotate_left
      · simp only [Act.put, List.setIfInBounds_toArray, List.set_cons_zero, List.set_cons_succ, i64_w, i32_w]
        rfl
      refine take_ (i := 7) (N := some 27) (v := ?_) (a' := ?_) #[true, true, true, true, true, true, true, true, false, false, false, false, false, false, false, false, false] rfl rfl (by kernel_rfl) (fun _ _ _ h => h) (Or.inl ⟨by rfl, ?_⟩) hHeld ?_ ?_
      rotate_left
      · rintro w' ⟨s0, s1, s2⟩
        go_simp
        with_reducible rfl
      rotate_left
      · simp only [Act.put, List.setIfInBounds_toArray, List.set_cons_zero, List.set_cons_succ, i64_w, i32_w]
        rfl
      refine join_ (σ := Nat) 2 #[true, true, true, true, true, true, true, true, true, true, true, true, true, true, true, false, false] (fun b => [(28, .int .i64 0), (29, .int .i64 (-1)), (30, .tuple #[.agg #[.int .u64 0, .int .u64 0], .bool false]), (19, .tuple #[.agg #[.int .u64 0, .int .u64 0], .bool false]), (31, .agg #[.int .u64 0, .int .u64 0]), (32, .bool false), (9, .pointer (some ⟨b, 0, none⟩))]) (fun b w' => w'.cell? ⟨f, 0, none⟩ = some (.pointer (some ⟨r, 0, none⟩)) ∧ w'.cell? ⟨r, 2, none⟩ = some (.int .i64 0) ∧ Keeps [] wr w' ∧ Blk w' b 151 [.int .u64 0, .int .u64 0] ∧ wr.heap.size ≤ b) ?_ ?_
      rotate_left
      · intro hCont
        refine two_ (i := 8) (j := 14) (Ni := some 28) (Nj := some 9) #[true, true, true, true, true, true, true, true, true, false, false, false, false, false, false, false, false] #[true, true, true, true, true, true, true, true, false, false, false, false, false, false, true, false, false] rfl rfl rfl rfl (by kernel_rfl) (by decide) (by decide) (fun K hK => ?_) (fun K hK => ?_)
        · skip
          refine goes_ Try.func83 (by kernel_rfl) rfl #[.pointer (some ⟨r, 0, none⟩)] (by rfl) rfl rfl (by simp only [List.map_toArray, List.map_cons, List.map_nil]; rfl) ?_
          with_reducible refine (Rd.len_any r 0 _ hHeld.2.1).mono ?_
          rintro e w3 ⟨rfl, rfl⟩
          refine ⟨_, rfl, ?_⟩
          refine hK.out _ _ ⟨hHeld.1, hHeld.2.1, hHeld.2.2⟩ (fun hHeld => ?_)
          clear hK K
          refine norm_ (a' := ?_) ?_ ?_
          rotate_left
          · show Act.put _ (some 28) _ = _
            simp only [Act.put, List.setIfInBounds_toArray, List.set_cons_zero, List.set_cons_succ, i64_w, i32_w]
            rfl
          refine pure_ (i := 9) (N := some 29) (v := ?_) (a' := ?_) #[true, true, true, true, true, true, true, true, true, true, false, false, false, false, false, false, false] rfl rfl (by kernel_rfl) (fun _ _ _ h => h) (Or.inl ⟨by rfl, ?_⟩) ?_ ?_
          rotate_left
          · intro w'
            go_simp
            with_reducible rfl
          rotate_left
          · simp only [Act.put, List.setIfInBounds_toArray, List.set_cons_zero, List.set_cons_succ, i64_w, i32_w]
            rfl
          refine two_ (i := 10) (j := 14) (Ni := some 30) (Nj := some 9) #[true, true, true, true, true, true, true, true, true, true, true, false, false, false, false, false, false] #[true, true, true, true, true, true, true, true, true, true, false, false, false, false, true, false, false] rfl rfl rfl rfl (by kernel_rfl) (by decide) (by decide) (fun K hK => ?_) (fun K hK => ?_)
          · skip
            refine goes_ Try.func79 (by kernel_rfl) rfl #[.pointer (some ⟨r, 0, none⟩), .int .i64 (-1)] (by rfl) rfl rfl (by simp only [List.map_toArray, List.map_cons, List.map_nil]; rfl) ?_
            with_reducible refine (Rd.at_no r 0 (-1) _ hHeld.2.1 (.inl (by omega))).mono ?_
            rintro e w3 ⟨rfl, hk3⟩
            refine ⟨_, rfl, ?_⟩
            refine hK.out _ _ ⟨((hk3.cell (p := ⟨f, 0, none⟩) (World.block_lt_of_cell? _ _ hHeld.1) (by simp)).trans hHeld.1), ((hk3.cell (p := ⟨r, 2, none⟩) (World.block_lt_of_cell? _ _ hHeld.2.1) (by simp)).trans hHeld.2.1), hHeld.2.2.trans hk3 (by simp)⟩ (fun hHeld => ?_)
            clear hK K
            refine norm_ (a' := ?_) ?_ ?_
            rotate_left
            · show Act.put _ (some 30) _ = _
              simp only [Act.put, List.setIfInBounds_toArray, List.set_cons_zero, List.set_cons_succ, i64_w, i32_w]
              rfl
            refine pure_ (i := 11) (N := some 19) (v := ?_) (a' := ?_) #[true, true, true, true, true, true, true, true, true, true, true, true, false, false, false, false, false] rfl rfl (by kernel_rfl) (fun _ _ _ h => h) (Or.inl ⟨by rfl, ?_⟩) ?_ ?_
            rotate_left
            · intro w'
              go_simp
              with_reducible rfl
            rotate_left
            · simp only [Act.put, List.setIfInBounds_toArray, List.set_cons_zero, List.set_cons_succ, i64_w, i32_w]
              rfl
            refine pure_ (i := 12) (N := some 31) (v := ?_) (a' := ?_) #[true, true, true, true, true, true, true, true, true, true, true, true, true, false, false, false, false] rfl rfl (by kernel_rfl) (fun _ _ _ h => h) (Or.inl ⟨by rfl, ?_⟩) ?_ ?_
            rotate_left
            · intro w'
              go_simp
              with_reducible rfl
            rotate_left
            · simp only [Act.put, List.setIfInBounds_toArray, List.set_cons_zero, List.set_cons_succ, i64_w, i32_w]
              rfl
            refine pure_ (i := 13) (N := some 32) (v := ?_) (a' := ?_) #[true, true, true, true, true, true, true, true, true, true, true, true, true, true, false, false, false] rfl rfl (by kernel_rfl) (fun _ _ _ h => h) (Or.inl ⟨by rfl, ?_⟩) ?_ ?_
            rotate_left
            · intro w'
              go_simp
              with_reducible rfl
            rotate_left
            · simp only [Act.put, List.setIfInBounds_toArray, List.set_cons_zero, List.set_cons_succ, i64_w, i32_w]
              rfl
            refine one_ (i := 14) (N := some 9) #[true, true, true, true, true, true, true, true, true, true, true, true, true, true, true, false, false] rfl rfl (by kernel_rfl) (by decide) (fun K hK => ?_)
            refine value_ (w1 := ?_) (v := ?_) (by rfl) rfl ?_ ?_
            rotate_left 2
            · go_simp
              constructor
              · rfl
              · rfl
            have hB := Blk.new w3 151 [.int .u64 0, .int .u64 0]
            refine hK.out _ _ ⟨(cell_alloc hHeld.1 _), (cell_alloc hHeld.2.1 _), hHeld.2.2.alloc _⟩ (fun hHeld => ?_)
            clear hK K
            refine norm_ (a' := ?_) ?_ ?_
            rotate_left
            · show Act.put _ (some 9) _ = _
              simp only [Act.put, List.setIfInBounds_toArray, List.set_cons_zero, List.set_cons_succ, i64_w, i32_w]
              rfl
            exact norm_ (by simp only [putAll, Act.put, List.setIfInBounds_toArray, List.set_cons_zero, List.set_cons_succ]) (hCont _ _ ⟨hHeld.1, hHeld.2.1, hHeld.2.2, hB, by have := hk3.size; simpa using this⟩)
          · skip
            refine value_ (w1 := ?_) (v := ?_) (by rfl) rfl ?_ ?_
            rotate_left 2
            · go_simp
              constructor
              · rfl
              · rfl
            have hB : Blk (wr.drew.alloc (.cells #[.int .u64 0, .int .u64 0] 151)) wr.heap.size 151 [.int .u64 0, .int .u64 0] := Blk.new wr.drew _ _
            refine hK.out _ _ ⟨(cell_alloc hHeld.1 _), (cell_alloc hHeld.2.1 _), hHeld.2.2.alloc _⟩ (fun hHeld => ?_)
            clear hK K
            refine norm_ (a' := ?_) ?_ ?_
            rotate_left
            · show Act.put _ (some 9) _ = _
              simp only [Act.put, List.setIfInBounds_toArray, List.set_cons_zero, List.set_cons_succ, i64_w, i32_w]
              rfl
            refine one_ (i := 10) (N := some 30) #[true, true, true, true, true, true, true, true, true, true, true, false, false, false, true, false, false] rfl rfl (by kernel_rfl) (by decide) (fun K hK => ?_)
            refine goes_ Try.func79 (by kernel_rfl) rfl #[.pointer (some ⟨r, 0, none⟩), .int .i64 (-1)] (by rfl) rfl rfl (by simp only [List.map_toArray, List.map_cons, List.map_nil]; rfl) ?_
            with_reducible refine (Rd.at_no r 0 (-1) _ hHeld.2.1 (.inl (by omega))).mono ?_
            rintro e w3 ⟨rfl, hk3⟩
            refine ⟨_, rfl, ?_⟩
            have hB := hB.keeps hk3 (by simp)
            refine hK.out _ _ ⟨((hk3.cell (p := ⟨f, 0, none⟩) (World.block_lt_of_cell? _ _ hHeld.1) (by simp)).trans hHeld.1), ((hk3.cell (p := ⟨r, 2, none⟩) (World.block_lt_of_cell? _ _ hHeld.2.1) (by simp)).trans hHeld.2.1), hHeld.2.2.trans hk3 (by simp)⟩ (fun hHeld => ?_)
            clear hK K
            refine norm_ (a' := ?_) ?_ ?_
            rotate_left
            · show Act.put _ (some 30) _ = _
              simp only [Act.put, List.setIfInBounds_toArray, List.set_cons_zero, List.set_cons_succ, i64_w, i32_w]
              rfl
            refine pure_ (i := 11) (N := some 19) (v := ?_) (a' := ?_) #[true, true, true, true, true, true, true, true, true, true, true, true, false, false, true, false, false] rfl rfl (by kernel_rfl) (fun _ _ _ h => h) (Or.inl ⟨by rfl, ?_⟩) ?_ ?_
            rotate_left
            · intro w'
              go_simp
              with_reducible rfl
            rotate_left
            · simp only [Act.put, List.setIfInBounds_toArray, List.set_cons_zero, List.set_cons_succ, i64_w, i32_w]
              rfl
            refine pure_ (i := 12) (N := some 31) (v := ?_) (a' := ?_) #[true, true, true, true, true, true, true, true, true, true, true, true, true, false, true, false, false] rfl rfl (by kernel_rfl) (fun _ _ _ h => h) (Or.inl ⟨by rfl, ?_⟩) ?_ ?_
            rotate_left
            · intro w'
              go_simp
              with_reducible rfl
            rotate_left
            · simp only [Act.put, List.setIfInBounds_toArray, List.set_cons_zero, List.set_cons_succ, i64_w, i32_w]
              rfl
            refine pure_ (i := 13) (N := some 32) (v := ?_) (a' := ?_) #[true, true, true, true, true, true, true, true, true, true, true, true, true, true, true, false, false] rfl rfl (by kernel_rfl) (fun _ _ _ h => h) (Or.inl ⟨by rfl, ?_⟩) ?_ ?_
            rotate_left
            · intro w'
              go_simp
              with_reducible rfl
            rotate_left
            · simp only [Act.put, List.setIfInBounds_toArray, List.set_cons_zero, List.set_cons_succ, i64_w, i32_w]
              rfl
            exact norm_ (by simp only [putAll, Act.put, List.setIfInBounds_toArray, List.set_cons_zero, List.set_cons_succ]) (hCont _ _ ⟨hHeld.1, hHeld.2.1, hHeld.2.2, hB, by simp⟩)
        · skip
          refine value_ (w1 := ?_) (v := ?_) (by rfl) rfl ?_ ?_
          rotate_left 2
          · go_simp
            constructor
            · rfl
            · rfl
          have hB : Blk (wr.drew.alloc (.cells #[.int .u64 0, .int .u64 0] 151)) wr.heap.size 151 [.int .u64 0, .int .u64 0] := Blk.new wr.drew _ _
          refine hK.out _ _ ⟨(cell_alloc hHeld.1 _), (cell_alloc hHeld.2.1 _), hHeld.2.2.alloc _⟩ (fun hHeld => ?_)
          clear hK K
          refine norm_ (a' := ?_) ?_ ?_
          rotate_left
          · show Act.put _ (some 9) _ = _
            simp only [Act.put, List.setIfInBounds_toArray, List.set_cons_zero, List.set_cons_succ, i64_w, i32_w]
            rfl
          refine one_ (i := 8) (N := some 28) #[true, true, true, true, true, true, true, true, true, false, false, false, false, false, true, false, false] rfl rfl (by kernel_rfl) (by decide) (fun K hK => ?_)
          refine goes_ Try.func83 (by kernel_rfl) rfl #[.pointer (some ⟨r, 0, none⟩)] (by rfl) rfl rfl (by simp only [List.map_toArray, List.map_cons, List.map_nil]; rfl) ?_
          with_reducible refine (Rd.len_any r 0 _ hHeld.2.1).mono ?_
          rintro e w3 ⟨rfl, rfl⟩
          refine ⟨_, rfl, ?_⟩
          refine hK.out _ _ ⟨hHeld.1, hHeld.2.1, hHeld.2.2⟩ (fun hHeld => ?_)
          clear hK K
          refine norm_ (a' := ?_) ?_ ?_
          rotate_left
          · show Act.put _ (some 28) _ = _
            simp only [Act.put, List.setIfInBounds_toArray, List.set_cons_zero, List.set_cons_succ, i64_w, i32_w]
            rfl
          refine pure_ (i := 9) (N := some 29) (v := ?_) (a' := ?_) #[true, true, true, true, true, true, true, true, true, true, false, false, false, false, true, false, false] rfl rfl (by kernel_rfl) (fun _ _ _ h => h) (Or.inl ⟨by rfl, ?_⟩) ?_ ?_
          rotate_left
          · intro w'
            go_simp
            with_reducible rfl
          rotate_left
          · simp only [Act.put, List.setIfInBounds_toArray, List.set_cons_zero, List.set_cons_succ, i64_w, i32_w]
            rfl
          refine one_ (i := 10) (N := some 30) #[true, true, true, true, true, true, true, true, true, true, true, false, false, false, true, false, false] rfl rfl (by kernel_rfl) (by decide) (fun K hK => ?_)
          refine goes_ Try.func79 (by kernel_rfl) rfl #[.pointer (some ⟨r, 0, none⟩), .int .i64 (-1)] (by rfl) rfl rfl (by simp only [List.map_toArray, List.map_cons, List.map_nil]; rfl) ?_
          with_reducible refine (Rd.at_no r 0 (-1) _ hHeld.2.1 (.inl (by omega))).mono ?_
          rintro e w3 ⟨rfl, hk3⟩
          refine ⟨_, rfl, ?_⟩
          have hB := hB.keeps hk3 (by simp)
          refine hK.out _ _ ⟨((hk3.cell (p := ⟨f, 0, none⟩) (World.block_lt_of_cell? _ _ hHeld.1) (by simp)).trans hHeld.1), ((hk3.cell (p := ⟨r, 2, none⟩) (World.block_lt_of_cell? _ _ hHeld.2.1) (by simp)).trans hHeld.2.1), hHeld.2.2.trans hk3 (by simp)⟩ (fun hHeld => ?_)
          clear hK K
          refine norm_ (a' := ?_) ?_ ?_
          rotate_left
          · show Act.put _ (some 30) _ = _
            simp only [Act.put, List.setIfInBounds_toArray, List.set_cons_zero, List.set_cons_succ, i64_w, i32_w]
            rfl
          refine pure_ (i := 11) (N := some 19) (v := ?_) (a' := ?_) #[true, true, true, true, true, true, true, true, true, true, true, true, false, false, true, false, false] rfl rfl (by kernel_rfl) (fun _ _ _ h => h) (Or.inl ⟨by rfl, ?_⟩) ?_ ?_
          rotate_left
          · intro w'
            go_simp
            with_reducible rfl
          rotate_left
          · simp only [Act.put, List.setIfInBounds_toArray, List.set_cons_zero, List.set_cons_succ, i64_w, i32_w]
            rfl
          refine pure_ (i := 12) (N := some 31) (v := ?_) (a' := ?_) #[true, true, true, true, true, true, true, true, true, true, true, true, true, false, true, false, false] rfl rfl (by kernel_rfl) (fun _ _ _ h => h) (Or.inl ⟨by rfl, ?_⟩) ?_ ?_
          rotate_left
          · intro w'
            go_simp
            with_reducible rfl
          rotate_left
          · simp only [Act.put, List.setIfInBounds_toArray, List.set_cons_zero, List.set_cons_succ, i64_w, i32_w]
            rfl
          refine pure_ (i := 13) (N := some 32) (v := ?_) (a' := ?_) #[true, true, true, true, true, true, true, true, true, true, true, true, true, true, true, false, false] rfl rfl (by kernel_rfl) (fun _ _ _ h => h) (Or.inl ⟨by rfl, ?_⟩) ?_ ?_
          rotate_left
          · intro w'
            go_simp
            with_reducible rfl
          rotate_left
          · simp only [Act.put, List.setIfInBounds_toArray, List.set_cons_zero, List.set_cons_succ, i64_w, i32_w]
            rfl
          exact norm_ (by simp only [putAll, Act.put, List.setIfInBounds_toArray, List.set_cons_zero, List.set_cons_succ]) (hCont _ _ ⟨hHeld.1, hHeld.2.1, hHeld.2.2, hB, by simp⟩)
      rintro b w5 ⟨s1, s2, s3, hB5, hb5⟩
      have hHeld : w5.cell? ⟨f, 0, none⟩ = some (.pointer (some ⟨r, 0, none⟩)) ∧ w5.cell? ⟨r, 2, none⟩ = some (.int .i64 0) ∧ Keeps [] wr w5 := ⟨s1, s2, s3⟩
      have y0 : w5.cell? ⟨b, 0, none⟩ = some (.int .u64 0) := hB5.cell 0
      have y1 : w5.cell? ⟨b, 1, none⟩ = some (.int .u64 0) := hB5.cell 1
      have z0 := hB5.frozen 0
      have z1 := hB5.frozen 1
      refine norm_ (a' := ?_) ?_ ?_
      rotate_left
      · simp only [putAll, Act.put, List.setIfInBounds_toArray, List.set_cons_zero, List.set_cons_succ]
        rfl
      refine last_ (i := 15) (N := none) #[true, true, true, true, true, true, true, true, true, true, true, true, true, true, true, true, false] rfl rfl (by kernel_rfl) (by decide) (fun K hK => ?_)
      refine skip_ (w1 := ?_) (by rfl) rfl ?_ ?_
      rotate_left
      · go_simp
        rfl
      refine hK.out _ _ ?_
      clear hK K
      refine pure_ (i := 16) (N := some 10) (v := ?_) (a' := ?_) #[true, true, true, true, true, true, true, true, true, true, true, true, true, true, true, true, true] rfl rfl (by kernel_rfl) (fun _ _ _ h => h) (Or.inl ⟨by rfl, ?_⟩) ?_ ?_
      rotate_left
      · intro w'
        go_simp
        with_reducible rfl
      rotate_left
      · simp only [Act.put, List.setIfInBounds_toArray, List.set_cons_zero, List.set_cons_succ, i64_w, i32_w]
        rfl
      refine done_ (by kernel_rfl) ?_
      have hfb : f ≠ b := by omega
      have hrb : r ≠ b := by omega
      have hpb : pb ≠ b := by omega
      refine exit_at (fun W => Keeps [] wr W) ?_ ?_
      · exact (by repeat (first | with_reducible exact s3 | refine Keeps.drew ?_ | refine Keeps.drewN ?_ _ | refine Keeps.alloc ?_ _ | refine Keeps.set_ ?_ (by first | (left; simp; done) | (right; simp; done) | (right; simp; omega) | (right; omega)) _))
      rintro W6 K6
      have H6 := H.keeps K6 (by simp) (by simp) (by simp)
      have K6' : Keeps [f, r, pb] w W6 := K.trans K6 (by simp)
      have g6 := H6.c0
      have hpush := Rd.push r pb t x _ W6 H6.row (by simp)
      clear hHeld s1 s2 s3 hB5 y0 y1 z0 z1 g0 g2 H K
      go_wp2_with (fail)
      refine hpush.mono ?_
      rintro e w7 ⟨rfl, ⟨pb', hrow, hpb'⟩, hk7⟩
      have H7 : FiltAt w7 f r pb' ⟨win, t, lst, [⟨t, x⟩]⟩ := ⟨H6.blk.keeps hk7 (by have := H6.ne1; have := H6.ne2; simp; omega), hrow⟩
      have hsz := K6'.size
      have K7 : Keeps [f, r, pb] w w7 := K6'.trans hk7 (by simp)
      have hfin : Hid (popw lst x xs1 = []) := by show _ = _; rw [← HP.out]; rfl
      clear hpush hrow
      go_wp2
      go_ret
      refine ⟨rfl, ⟨pb', ?_, by omega⟩, K7⟩
      rw [hfin.out]; exact H7
    · have g2' : wr.cell? ⟨r, 2, none⟩ = some (.int .i64 ((zs.length : Int) + 1)) := by rw [g2]; simp
      have hzl : zs.length ≤ 1000000 := by simp at hys; omega
      have c1 := i64k (zs.length : Int) (by omega) (by omega)
      have c2 := i64w (zs.length : Int) (by omega) (by omega)
      have c4 : ((zs.length : Int) + 1 - 1) = (zs.length : Int) := by omega
      have e0 : Hid (ringLen wr r = zs.length + 1) := by show _ = _; rw [ringLen_eq H.row]; simp
      clear hys g2
      go_wp2_with (fail)
      refine start_ (n := 17) (S := fun w' => w'.cell? ⟨f, 0, none⟩ = some (.pointer (some ⟨r, 0, none⟩)) ∧ w'.cell? ⟨r, 2, none⟩ = some (.int .i64 ((zs.length : Int) + 1)) ∧ Keeps [] wr w') (ds := [15]) #[false, false, false, false, false, false, false, false, false, false, false, false, false, false, false, false, false] (by kernel_rfl) rfl rfl ⟨g0, g2', (Keeps.refl [] wr).drew⟩ (fun hHeld => ?_)
      refine pure_ (i := 0) (N := some 20) (v := ?_) (a' := ?_) #[true, false, false, false, false, false, false, false, false, false, false, false, false, false, false, false, false] rfl rfl (by kernel_rfl) (fun _ _ _ h => h) (Or.inl ⟨by rfl, ?_⟩) ?_ ?_
      rotate_left
      · intro w'
        go_simp
        with_reducible rfl
      rotate_left
      · simp only [Act.put, List.setIfInBounds_toArray, List.set_cons_zero, List.set_cons_succ, i64_w, i32_w]
        rfl
      refine pure_ (i := 1) (N := some 21) (v := ?_) (a' := ?_) #[true, true, false, false, false, false, false, false, false, false, false, false, false, false, false, false, false] rfl rfl (by kernel_rfl) (fun _ _ _ h => h) (Or.inl ⟨by rfl, ?_⟩) ?_ ?_
      rotate_left
      · intro w'
        go_simp
        with_reducible rfl
      rotate_left
      · simp only [Act.put, List.setIfInBounds_toArray, List.set_cons_zero, List.set_cons_succ, i64_w, i32_w]
        rfl
      refine pure_ (i := 2) (N := some 22) (v := ?_) (a' := ?_) #[true, true, true, false, false, false, false, false, false, false, false, false, false, false, false, false, false] rfl rfl (by kernel_rfl) (fun _ _ _ h => h) (Or.inl ⟨by rfl, ?_⟩) ?_ ?_
      rotate_left
      · intro w'
        go_simp
        with_reducible rfl
      rotate_left
      · simp only [Act.put, List.setIfInBounds_toArray, List.set_cons_zero, List.set_cons_succ, i64_w, i32_w]
        rfl
      refine pure_ (i := 4) (N := some 24) (v := ?_) (a' := ?_) #[true, true, true, false, true, false, false, false, false, false, false, false, false, false, false, false, false] rfl rfl (by kernel_rfl) (fun _ _ _ h => h) (Or.inl ⟨by rfl, ?_⟩) ?_ ?_
      rotate_left
      · intro w'
        go_simp
        with_reducible rfl
      rotate_left
      · simp only [Act.put, List.setIfInBounds_toArray, List.set_cons_zero, List.set_cons_succ, i64_w, i32_w]
        rfl
      refine pure_ (i := 5) (N := some 25) (v := ?_) (a' := ?_) #[true, true, true, false, true, true, false, false, false, false, false, false, false, false, false, false, false] rfl rfl (by kernel_rfl) (fun _ _ _ h => h) (Or.inl ⟨by rfl, ?_⟩) ?_ ?_
      rotate_left
      · intro w'
        go_simp
        with_reducible rfl
      rotate_left
      · simp only [Act.put, List.setIfInBounds_toArray, List.set_cons_zero, List.set_cons_succ, i64_w, i32_w]
        rfl
      refine pure_ (i := 6) (N := some 26) (v := ?_) (a' := ?_) #[true, true, true, false, true, true, true, false, false, false, false, false, false, false, false, false, false] rfl rfl (by kernel_rfl) (fun _ _ _ h => h) (Or.inl ⟨by rfl, ?_⟩) ?_ ?_
      rotate_left
      · intro w'
        go_simp
        with_reducible rfl
      rotate_left
      · simp only [Act.put, List.setIfInBounds_toArray, List.set_cons_zero, List.set_cons_succ, i64_w, i32_w]
        rfl
      refine take_ (i := 3) (N := some 23) (v := ?_) (a' := ?_) #[true, true, true, true, true, true, true, false, false, false, false, false, false, false, false, false, false] rfl rfl (by kernel_rfl) (fun _ _ _ h => h) (Or.inl ⟨by rfl, ?_⟩) hHeld ?_ ?_
      rotate_left
      · rintro w' ⟨s0, s1, s2⟩
        go_simp
        with_reducible rfl
      rotate_left
      · simp only [Act.put, List.setIfInBounds_toArray, List.set_cons_zero, List.set_cons_succ, i64_w, i32_w]
        rfl
      refine take_ (i := 7) (N := some 27) (v := ?_) (a' := ?_) #[true, true, true, true, true, true, true, true, false, false, false, false, false, false, false, false, false] rfl rfl (by kernel_rfl) (fun _ _ _ h => h) (Or.inl ⟨by rfl, ?_⟩) hHeld ?_ ?_
      rotate_left
      · rintro w' ⟨s0, s1, s2⟩
        go_simp
        with_reducible rfl
      rotate_left
      · simp only [Act.put, List.setIfInBounds_toArray, List.set_cons_zero, List.set_cons_succ, i64_w, i32_w]
        rfl
      refine join_ (σ := Nat) 2 #[true, true, true, true, true, true, true, true, true, true, true, true, true, true, true, false, false] (fun b => [(28, .int .i64 ((zs.length : Int) + 1)), (29, .int .i64 (zs.length : Int)), (30, .tuple #[.agg #[.int .u64 a.t, .int .u64 a.x], .bool true]), (19, .tuple #[.agg #[.int .u64 a.t, .int .u64 a.x], .bool true]), (31, .agg #[.int .u64 a.t, .int .u64 a.x]), (32, .bool true), (9, .pointer (some ⟨b, 0, none⟩))]) (fun b w' => w'.cell? ⟨f, 0, none⟩ = some (.pointer (some ⟨r, 0, none⟩)) ∧ w'.cell? ⟨r, 2, none⟩ = some (.int .i64 ((zs.length : Int) + 1)) ∧ Keeps [] wr w' ∧ Blk w' b 151 [.int .u64 0, .int .u64 0] ∧ wr.heap.size ≤ b) ?_ ?_
      rotate_left
      · intro hCont
        refine two_ (i := 8) (j := 14) (Ni := some 28) (Nj := some 9) #[true, true, true, true, true, true, true, true, true, false, false, false, false, false, false, false, false] #[true, true, true, true, true, true, true, true, false, false, false, false, false, false, true, false, false] rfl rfl rfl rfl (by kernel_rfl) (by decide) (by decide) (fun K hK => ?_) (fun K hK => ?_)
        · skip
          refine goes_ Try.func83 (by kernel_rfl) rfl #[.pointer (some ⟨r, 0, none⟩)] (by rfl) rfl rfl (by simp only [List.map_toArray, List.map_cons, List.map_nil]; rfl) ?_
          with_reducible refine (Rd.len_any r ((zs.length : Int) + 1) _ hHeld.2.1).mono ?_
          rintro e w3 ⟨rfl, rfl⟩
          refine ⟨_, rfl, ?_⟩
          refine hK.out _ _ ⟨hHeld.1, hHeld.2.1, hHeld.2.2⟩ (fun hHeld => ?_)
          clear hK K
          refine norm_ (a' := ?_) ?_ ?_
          rotate_left
          · show Act.put _ (some 28) _ = _
            simp only [Act.put, List.setIfInBounds_toArray, List.set_cons_zero, List.set_cons_succ, i64_w, i32_w]
            rfl
          refine pure_ (i := 9) (N := some 29) (v := ?_) (a' := ?_) #[true, true, true, true, true, true, true, true, true, true, false, false, false, false, false, false, false] rfl rfl (by kernel_rfl) (fun _ _ _ h => h) (Or.inl ⟨by rfl, ?_⟩) ?_ ?_
          rotate_left
          · intro w'
            go_simp
            with_reducible rfl
          rotate_left
          · simp only [Act.put, List.setIfInBounds_toArray, List.set_cons_zero, List.set_cons_succ, i64_w, i32_w]
            rfl
          refine two_ (i := 10) (j := 14) (Ni := some 30) (Nj := some 9) #[true, true, true, true, true, true, true, true, true, true, true, false, false, false, false, false, false] #[true, true, true, true, true, true, true, true, true, true, false, false, false, false, true, false, false] rfl rfl rfl rfl (by kernel_rfl) (by decide) (by decide) (fun K hK => ?_) (fun K hK => ?_)
          · skip
            refine goes_ Try.func79 (by kernel_rfl) rfl #[.pointer (some ⟨r, 0, none⟩), .int .i64 (zs.length : Int)] (by rfl) rfl rfl (by simp only [List.map_toArray, List.map_cons, List.map_nil]; rfl) ?_
            with_reducible refine (Rd.at_yes r pb a.t a.x zs.length _ _ (H.row.keeps hHeld.2.2 (by simp) (by simp)) (by simp [Rdg.cells])).mono ?_
            rintro e w3 ⟨rfl, hk3⟩
            refine ⟨_, rfl, ?_⟩
            refine hK.out _ _ ⟨((hk3.cell (p := ⟨f, 0, none⟩) (World.block_lt_of_cell? _ _ hHeld.1) (by simp)).trans hHeld.1), ((hk3.cell (p := ⟨r, 2, none⟩) (World.block_lt_of_cell? _ _ hHeld.2.1) (by simp)).trans hHeld.2.1), hHeld.2.2.trans hk3 (by simp)⟩ (fun hHeld => ?_)
            clear hK K
            refine norm_ (a' := ?_) ?_ ?_
            rotate_left
            · show Act.put _ (some 30) _ = _
              simp only [Act.put, List.setIfInBounds_toArray, List.set_cons_zero, List.set_cons_succ, i64_w, i32_w]
              rfl
            refine pure_ (i := 11) (N := some 19) (v := ?_) (a' := ?_) #[true, true, true, true, true, true, true, true, true, true, true, true, false, false, false, false, false] rfl rfl (by kernel_rfl) (fun _ _ _ h => h) (Or.inl ⟨by rfl, ?_⟩) ?_ ?_
            rotate_left
            · intro w'
              go_simp
              with_reducible rfl
            rotate_left
            · simp only [Act.put, List.setIfInBounds_toArray, List.set_cons_zero, List.set_cons_succ, i64_w, i32_w]
              rfl
            refine pure_ (i := 12) (N := some 31) (v := ?_) (a' := ?_) #[true, true, true, true, true, true, true, true, true, true, true, true, true, false, false, false, false] rfl rfl (by kernel_rfl) (fun _ _ _ h => h) (Or.inl ⟨by rfl, ?_⟩) ?_ ?_
            rotate_left
            · intro w'
              go_simp
              with_reducible rfl
            rotate_left
            · simp only [Act.put, List.setIfInBounds_toArray, List.set_cons_zero, List.set_cons_succ, i64_w, i32_w]
              rfl
            refine pure_ (i := 13) (N := some 32) (v := ?_) (a' := ?_) #[true, true, true, true, true, true, true, true, true, true, true, true, true, true, false, false, false] rfl rfl (by kernel_rfl) (fun _ _ _ h => h) (Or.inl ⟨by rfl, ?_⟩) ?_ ?_
            rotate_left
            · intro w'
              go_simp
              with_reducible rfl
            rotate_left
            · simp only [Act.put, List.setIfInBounds_toArray, List.set_cons_zero, List.set_cons_succ, i64_w, i32_w]
              rfl
            refine one_ (i := 14) (N := some 9) #[true, true, true, true, true, true, true, true, true, true, true, true, true, true, true, false, false] rfl rfl (by kernel_rfl) (by decide) (fun K hK => ?_)
            refine value_ (w1 := ?_) (v := ?_) (by rfl) rfl ?_ ?_
            rotate_left 2
            · go_simp
              constructor
              · rfl
              · rfl
            have hB := Blk.new w3 151 [.int .u64 0, .int .u64 0]
            refine hK.out _ _ ⟨(cell_alloc hHeld.1 _), (cell_alloc hHeld.2.1 _), hHeld.2.2.alloc _⟩ (fun hHeld => ?_)
            clear hK K
            refine norm_ (a' := ?_) ?_ ?_
            rotate_left
            · show Act.put _ (some 9) _ = _
              simp only [Act.put, List.setIfInBounds_toArray, List.set_cons_zero, List.set_cons_succ, i64_w, i32_w]
              rfl
            exact norm_ (by simp only [putAll, Act.put, List.setIfInBounds_toArray, List.set_cons_zero, List.set_cons_succ]) (hCont _ _ ⟨hHeld.1, hHeld.2.1, hHeld.2.2, hB, by have := hk3.size; simpa using this⟩)
          · skip
            refine value_ (w1 := ?_) (v := ?_) (by rfl) rfl ?_ ?_
            rotate_left 2
            · go_simp
              constructor
              · rfl
              · rfl
            have hB : Blk (wr.drew.alloc (.cells #[.int .u64 0, .int .u64 0] 151)) wr.heap.size 151 [.int .u64 0, .int .u64 0] := Blk.new wr.drew _ _
            refine hK.out _ _ ⟨(cell_alloc hHeld.1 _), (cell_alloc hHeld.2.1 _), hHeld.2.2.alloc _⟩ (fun hHeld => ?_)
            clear hK K
            refine norm_ (a' := ?_) ?_ ?_
            rotate_left
            · show Act.put _ (some 9) _ = _
              simp only [Act.put, List.setIfInBounds_toArray, List.set_cons_zero, List.set_cons_succ, i64_w, i32_w]
              rfl
            refine one_ (i := 10) (N := some 30) #[true, true, true, true, true, true, true, true, true, true, true, false, false, false, true, false, false] rfl rfl (by kernel_rfl) (by decide) (fun K hK => ?_)
            refine goes_ Try.func79 (by kernel_rfl) rfl #[.pointer (some ⟨r, 0, none⟩), .int .i64 (zs.length : Int)] (by rfl) rfl rfl (by simp only [List.map_toArray, List.map_cons, List.map_nil]; rfl) ?_
            with_reducible refine (Rd.at_yes r pb a.t a.x zs.length _ _ (H.row.keeps hHeld.2.2 (by simp) (by simp)) (by simp [Rdg.cells])).mono ?_
            rintro e w3 ⟨rfl, hk3⟩
            refine ⟨_, rfl, ?_⟩
            have hB := hB.keeps hk3 (by simp)
            refine hK.out _ _ ⟨((hk3.cell (p := ⟨f, 0, none⟩) (World.block_lt_of_cell? _ _ hHeld.1) (by simp)).trans hHeld.1), ((hk3.cell (p := ⟨r, 2, none⟩) (World.block_lt_of_cell? _ _ hHeld.2.1) (by simp)).trans hHeld.2.1), hHeld.2.2.trans hk3 (by simp)⟩ (fun hHeld => ?_)
            clear hK K
            refine norm_ (a' := ?_) ?_ ?_
            rotate_left
            · show Act.put _ (some 30) _ = _
              simp only [Act.put, List.setIfInBounds_toArray, List.set_cons_zero, List.set_cons_succ, i64_w, i32_w]
              rfl
            refine pure_ (i := 11) (N := some 19) (v := ?_) (a' := ?_) #[true, true, true, true, true, true, true, true, true, true, true, true, false, false, true, false, false] rfl rfl (by kernel_rfl) (fun _ _ _ h => h) (Or.inl ⟨by rfl, ?_⟩) ?_ ?_
            rotate_left
            · intro w'
              go_simp
              with_reducible rfl
            rotate_left
            · simp only [Act.put, List.setIfInBounds_toArray, List.set_cons_zero, List.set_cons_succ, i64_w, i32_w]
              rfl
            refine pure_ (i := 12) (N := some 31) (v := ?_) (a' := ?_) #[true, true, true, true, true, true, true, true, true, true, true, true, true, false, true, false, false] rfl rfl (by kernel_rfl) (fun _ _ _ h => h) (Or.inl ⟨by rfl, ?_⟩) ?_ ?_
            rotate_left
            · intro w'
              go_simp
              with_reducible rfl
            rotate_left
            · simp only [Act.put, List.setIfInBounds_toArray, List.set_cons_zero, List.set_cons_succ, i64_w, i32_w]
              rfl
            refine pure_ (i := 13) (N := some 32) (v := ?_) (a' := ?_) #[true, true, true, true, true, true, true, true, true, true, true, true, true, true, true, false, false] rfl rfl (by kernel_rfl) (fun _ _ _ h => h) (Or.inl ⟨by rfl, ?_⟩) ?_ ?_
            rotate_left
            · intro w'
              go_simp
              with_reducible rfl
            rotate_left
            · simp only [Act.put, List.setIfInBounds_toArray, List.set_cons_zero, List.set_cons_succ, i64_w, i32_w]
              rfl
            exact norm_ (by simp only [putAll, Act.put, List.setIfInBounds_toArray, List.set_cons_zero, List.set_cons_succ]) (hCont _ _ ⟨hHeld.1, hHeld.2.1, hHeld.2.2, hB, by simp⟩)
        · skip
          refine value_ (w1 := ?_) (v := ?_) (by rfl) rfl ?_ ?_
          rotate_left 2
          · go_simp
            constructor
            · rfl
            · rfl
          have hB : Blk (wr.drew.alloc (.cells #[.int .u64 0, .int .u64 0] 151)) wr.heap.size 151 [.int .u64 0, .int .u64 0] := Blk.new wr.drew _ _
          refine hK.out _ _ ⟨(cell_alloc hHeld.1 _), (cell_alloc hHeld.2.1 _), hHeld.2.2.alloc _⟩ (fun hHeld => ?_)
          clear hK K
          refine norm_ (a' := ?_) ?_ ?_
          rotate_left
          · show Act.put _ (some 9) _ = _
            simp only [Act.put, List.setIfInBounds_toArray, List.set_cons_zero, List.set_cons_succ, i64_w, i32_w]
            rfl
          refine one_ (i := 8) (N := some 28) #[true, true, true, true, true, true, true, true, true, false, false, false, false, false, true, false, false] rfl rfl (by kernel_rfl) (by decide) (fun K hK => ?_)
          refine goes_ Try.func83 (by kernel_rfl) rfl #[.pointer (some ⟨r, 0, none⟩)] (by rfl) rfl rfl (by simp only [List.map_toArray, List.map_cons, List.map_nil]; rfl) ?_
          with_reducible refine (Rd.len_any r ((zs.length : Int) + 1) _ hHeld.2.1).mono ?_
          rintro e w3 ⟨rfl, rfl⟩
          refine ⟨_, rfl, ?_⟩
          refine hK.out _ _ ⟨hHeld.1, hHeld.2.1, hHeld.2.2⟩ (fun hHeld => ?_)
          clear hK K
          refine norm_ (a' := ?_) ?_ ?_
          rotate_left
          · show Act.put _ (some 28) _ = _
            simp only [Act.put, List.setIfInBounds_toArray, List.set_cons_zero, List.set_cons_succ, i64_w, i32_w]
            rfl
          refine pure_ (i := 9) (N := some 29) (v := ?_) (a' := ?_) #[true, true, true, true, true, true, true, true, true, true, false, false, false, false, true, false, false] rfl rfl (by kernel_rfl) (fun _ _ _ h => h) (Or.inl ⟨by rfl, ?_⟩) ?_ ?_
          rotate_left
          · intro w'
            go_simp
            with_reducible rfl
          rotate_left
          · simp only [Act.put, List.setIfInBounds_toArray, List.set_cons_zero, List.set_cons_succ, i64_w, i32_w]
            rfl
          refine one_ (i := 10) (N := some 30) #[true, true, true, true, true, true, true, true, true, true, true, false, false, false, true, false, false] rfl rfl (by kernel_rfl) (by decide) (fun K hK => ?_)
          refine goes_ Try.func79 (by kernel_rfl) rfl #[.pointer (some ⟨r, 0, none⟩), .int .i64 (zs.length : Int)] (by rfl) rfl rfl (by simp only [List.map_toArray, List.map_cons, List.map_nil]; rfl) ?_
          with_reducible refine (Rd.at_yes r pb a.t a.x zs.length _ _ (H.row.keeps hHeld.2.2 (by simp) (by simp)) (by simp [Rdg.cells])).mono ?_
          rintro e w3 ⟨rfl, hk3⟩
          refine ⟨_, rfl, ?_⟩
          have hB := hB.keeps hk3 (by simp)
          refine hK.out _ _ ⟨((hk3.cell (p := ⟨f, 0, none⟩) (World.block_lt_of_cell? _ _ hHeld.1) (by simp)).trans hHeld.1), ((hk3.cell (p := ⟨r, 2, none⟩) (World.block_lt_of_cell? _ _ hHeld.2.1) (by simp)).trans hHeld.2.1), hHeld.2.2.trans hk3 (by simp)⟩ (fun hHeld => ?_)
          clear hK K
          refine norm_ (a' := ?_) ?_ ?_
          rotate_left
          · show Act.put _ (some 30) _ = _
            simp only [Act.put, List.setIfInBounds_toArray, List.set_cons_zero, List.set_cons_succ, i64_w, i32_w]
            rfl
          refine pure_ (i := 11) (N := some 19) (v := ?_) (a' := ?_) #[true, true, true, true, true, true, true, true, true, true, true, true, false, false, true, false, false] rfl rfl (by kernel_rfl) (fun _ _ _ h => h) (Or.inl ⟨by rfl, ?_⟩) ?_ ?_
          rotate_left
          · intro w'
            go_simp
            with_reducible rfl
          rotate_left
          · simp only [Act.put, List.setIfInBounds_toArray, List.set_cons_zero, List.set_cons_succ, i64_w, i32_w]
            rfl
          refine pure_ (i := 12) (N := some 31) (v := ?_) (a' := ?_) #[true, true, true, true, true, true, true, true, true, true, true, true, true, false, true, false, false] rfl rfl (by kernel_rfl) (fun _ _ _ h => h) (Or.inl ⟨by rfl, ?_⟩) ?_ ?_
          rotate_left
          · intro w'
            go_simp
            with_reducible rfl
          rotate_left
          · simp only [Act.put, List.setIfInBounds_toArray, List.set_cons_zero, List.set_cons_succ, i64_w, i32_w]
            rfl
          refine pure_ (i := 13) (N := some 32) (v := ?_) (a' := ?_) #[true, true, true, true, true, true, true, true, true, true, true, true, true, true, true, false, false] rfl rfl (by kernel_rfl) (fun _ _ _ h => h) (Or.inl ⟨by rfl, ?_⟩) ?_ ?_
          rotate_left
          · intro w'
            go_simp
            with_reducible rfl
          rotate_left
          · simp only [Act.put, List.setIfInBounds_toArray, List.set_cons_zero, List.set_cons_succ, i64_w, i32_w]
            rfl
          exact norm_ (by simp only [putAll, Act.put, List.setIfInBounds_toArray, List.set_cons_zero, List.set_cons_succ]) (hCont _ _ ⟨hHeld.1, hHeld.2.1, hHeld.2.2, hB, by simp⟩)
      rintro b w5 ⟨s1, s2, s3, hB5, hb5⟩
      have hHeld : w5.cell? ⟨f, 0, none⟩ = some (.pointer (some ⟨r, 0, none⟩)) ∧ w5.cell? ⟨r, 2, none⟩ = some (.int .i64 ((zs.length : Int) + 1)) ∧ Keeps [] wr w5 := ⟨s1, s2, s3⟩
      have y0 : w5.cell? ⟨b, 0, none⟩ = some (.int .u64 0) := hB5.cell 0
      have y1 : w5.cell? ⟨b, 1, none⟩ = some (.int .u64 0) := hB5.cell 1
      have z0 := hB5.frozen 0
      have z1 := hB5.frozen 1
      refine norm_ (a' := ?_) ?_ ?_
      rotate_left
      · simp only [putAll, Act.put, List.setIfInBounds_toArray, List.set_cons_zero, List.set_cons_succ]
        rfl
      refine last_ (i := 15) (N := none) #[true, true, true, true, true, true, true, true, true, true, true, true, true, true, true, true, false] rfl rfl (by kernel_rfl) (by decide) (fun K hK => ?_)
      refine skip_ (w1 := ?_) (by rfl) rfl ?_ ?_
      rotate_left
      · go_simp
        rfl
      refine hK.out _ _ ?_
      clear hK K
      refine pure_ (i := 16) (N := some 10) (v := ?_) (a' := ?_) #[true, true, true, true, true, true, true, true, true, true, true, true, true, true, true, true, true] rfl rfl (by kernel_rfl) (fun _ _ _ h => h) (Or.inl ⟨by rfl, ?_⟩) ?_ ?_
      rotate_left
      · intro w'
        go_simp
        with_reducible rfl
      rotate_left
      · simp only [Act.put, List.setIfInBounds_toArray, List.set_cons_zero, List.set_cons_succ, i64_w, i32_w]
        rfl
      refine done_ (by kernel_rfl) ?_
      have hfb : f ≠ b := by omega
      have hrb : r ≠ b := by omega
      have hpb : pb ≠ b := by omega
      refine exit_at (fun W => Keeps [] wr W ∧ Blk W b 151 [.int .u64 a.t, .int .u64 a.x]) ?_ ?_
      · exact ⟨(by repeat (first | with_reducible exact s3 | refine Keeps.drew ?_ | refine Keeps.drewN ?_ _ | refine Keeps.alloc ?_ _ | refine Keeps.set_ ?_ (by first | (left; simp; done) | (right; simp; done) | (right; simp; omega) | (right; omega)) _)), (by (repeat (first | with_reducible exact hB5 | with_reducible apply Blk.drew | with_reducible apply Blk.drewN | with_reducible refine Blk.newAt (by simp; done) | with_reducible apply Blk.alloc | with_reducible apply Blk.set2 | with_reducible apply Blk.far)); (all_goals (first | rfl | assumption | (simp; done) | (simp; omega) | omega)))⟩
      rintro W6 ⟨K6, B6⟩
      have H6 := H.keeps K6 (by simp) (by simp) (by simp)
      have K6' : Keeps [f, r, pb] w W6 := K.trans K6 (by simp)
      have hsz := K6'.size
      clear hHeld s1 s2 s3 hB5 y0 y1 z0 z1 g0 g2' H K K6 c1 c2 c4 hfb hrb hpb
      have g6 := H6.c0
      have q1 := B6.cell 1
      simp only [List.getElem?_cons_zero, List.getElem?_cons_succ] at q1
      have hbt := better_calls f lst a.x x W6 (H6.c3.trans rfl)
      by_cases hbb : better lst a.x x = true
      · rw [hbb] at hbt
        have hfin : Hid (popw lst x xs1 = zs ++ [a]) := by show _ = _; rw [← HP.out]; exact popw_stop hbb
        clear hbb
        have hpush := Rd.push r pb t x _ W6 H6.row (by simp; omega)
        go_wp2_with (fail)
        refine hbt.mono ?_
        rintro e w7 ⟨rfl, rfl⟩
        clear hbt
        go_wp2_with (fail)
        refine hpush.mono ?_
        rintro e w7 ⟨rfl, ⟨pb', hrow, hpb'⟩, hk7⟩
        have H7 : FiltAt w7 f r pb' ⟨win, t, lst, zs ++ [a] ++ [⟨t, x⟩]⟩ := ⟨H6.blk.keeps hk7 (by have := H6.ne1; have := H6.ne2; simp; omega), by simpa [Rdg.cells] using hrow⟩
        have K7 : Keeps [f, r, pb] w w7 := K6'.trans hk7 (by simp)
        clear hpush hrow
        go_wp2
        go_ret
        refine ⟨rfl, ⟨pb', ?_, by omega⟩, K7⟩
        rw [hfin.out]; exact H7
      · have hbf : better lst a.x x = false := by simpa using hbb
        rw [hbf] at hbt
        have HPr : Hid (popw lst x (zs ++ [a]) = popw lst x zs) := popw_go hbf
        have hpop := Rd.pop_yes r pb a.t a.x (zs.map Rdg.cells) W6 (by simpa [Rdg.cells] using H6.row)
        clear hbb hbf
        go_wp2_with (fail)
        refine hbt.mono ?_
        rintro e w7 ⟨rfl, rfl⟩
        clear hbt
        go_wp2_with (fail)
        refine hpop.mono ?_
        rintro e w7 ⟨rfl, hrow, hk7⟩
        have H7 : FiltAt w7 f r pb ⟨win, t, lst, zs⟩ := ⟨H6.blk.keeps hk7 (by have := H6.ne1; have := H6.ne2; simp; omega), hrow⟩
        have K7 : Keeps [f, r, pb] w w7 := K6'.trans hk7 (by simp)
        have e4 : Hid (ringLen w7 r = zs.length) := by show _ = _; rw [ringLen_eq H7.row]; simp
        clear hpop hrow hk7 H6 B6 K6' g6 q1
        go_wp2_with (fail)
        go_roundw
        case rel => exact ⟨zs, H7, by rw [← HPr.out, HP.out], hzl, K7⟩
        case measure => rw [e4.out, e0.out]; omega
end Go.Proofs.Ytaceikdmepeoiaa
