/- filt.Filter: Best, To. -/
import Derived.Test.YtaceikdmepeoiaaFiltA
import Derived.Deep.LoopGhost
namespace Go.Proofs.Ytaceikdmepeoiaa
set_option linter.unusedSimpArgs false
set_option linter.unusedVariables false
open Go.RowKit Go.Proofs.YtaceikdmepeoiaaW.PrintLast
theorem at0_yes (r pb : Nat) (a0 a1 : Int) (xs : List (List Value)) (w : World) (h : Rd.At w r pb ([.int .u64 a0, .int .u64 a1] :: xs)) :
    Calls Try.prog 79 #[.pointer (some ⟨r, 0, none⟩), .int .i64 0] w fun e w' => e = .returned (.tuple #[.agg #[.int .u64 a0, .int .u64 a1], .bool true]) ∧ Keeps [] w w' := by
  simpa using Rd.at_yes r pb a0 a1 0 _ w h rfl
theorem at0_no (r pb : Nat) (w : World) (h : Rd.At w r pb []) :
    Calls Try.prog 79 #[.pointer (some ⟨r, 0, none⟩), .int .i64 0] w fun e w' => e = .returned (.tuple #[.agg #[.int .u64 0, .int .u64 0], .bool false]) ∧ Keeps [] w w' :=
  Rd.at_no r 0 0 w (h.c2.trans rfl) (.inr (by omega))
def hdx (s : Flt) : Int := match s.xs with | [] => 0 | a :: _ => a.x
def hdt (s : Flt) : Int := match s.xs with | [] => 0 | a :: _ => a.t
/-- At(0), whatever the row. -/
theorem at0_any (f r pb : Nat) (s : Flt) (w : World) (h : FiltAt w f r pb s) :
    Calls Try.prog 79 #[.pointer (some ⟨r, 0, none⟩), .int .i64 0] w fun e w' => e = .returned (.tuple #[.agg #[.int .u64 (hdt s), .int .u64 (hdx s)], .bool (!s.xs.isEmpty)]) ∧ Keeps [] w w' := by
  have h' := h.row
  obtain ⟨W, now, least, xs⟩ := s
  cases xs with
  | nil => exact at0_no r pb w h'
  | cons a xs => exact at0_yes r pb a.t a.x _ w h'
set_option maxHeartbeats 1000000 in
theorem best_calls (f r pb : Nat) (s : Flt) (w : World) (h : FiltAt w f r pb s) :
    Calls Try.prog 18 #[.pointer (some ⟨f, 0, none⟩)] w fun e w' => e = .returned (.tuple #[.int .u64 (hdx s), .int .u64 (hdt s), .bool (!s.xs.isEmpty)]) ∧ Keeps [] w w' := by
  have g0 := h.c0
  have hat := at0_any f r pb s w h
  generalize hdx s = X at *
  generalize hdt s = T at *
  generalize (!s.xs.isEmpty) = B at *
  go_enter Try.func18, Try.ntmps18
  go_wp2_with (fail)
  refine hat.mono ?_
  rintro e w1 ⟨rfl, hk⟩
  go_wp2_with (fail)
  refine wp_at (fun W => Blk W w1.heap.size 151 [.int .u64 T, .int .u64 X] ∧ Keeps [] w W) ?_ ?_
  · exact ⟨Blk.new w1 _ [.int .u64 T, .int .u64 X], hk.alloc _⟩
  rintro W2 ⟨B2, K2⟩
  have q0 := B2.cell 0
  have q1 := B2.cell 1
  simp only [List.getElem?_cons_zero, List.getElem?_cons_succ] at q0 q1
  refine start_ (n := 8) (S := fun w' => w'.cell? ⟨w1.heap.size, 0, none⟩ = some (.int .u64 T) ∧ w'.cell? ⟨w1.heap.size, 1, none⟩ = some (.int .u64 X)) (ds := []) #[false, false, false, false, false, false, false, false] (by kernel_rfl) rfl rfl ⟨q0, q1⟩ (fun hHeld => ?_)
  refine pure_ (i := 0) (N := some 17) (v := ?_) (a' := ?_) #[true, false, false, false, false, false, false, false] rfl rfl (by kernel_rfl) (fun _ _ _ h => h) (Or.inl ⟨by rfl, ?_⟩) ?_ ?_
  rotate_left
  · intro w'
    go_simp
    with_reducible rfl
  rotate_left
  · simp only [Act.put, List.setIfInBounds_toArray, List.set_cons_zero, List.set_cons_succ, i64_w, i32_w]
    rfl
  refine pure_ (i := 2) (N := some 19) (v := ?_) (a' := ?_) #[true, false, true, false, false, false, false, false] rfl rfl (by kernel_rfl) (fun _ _ _ h => h) (Or.inl ⟨by rfl, ?_⟩) ?_ ?_
  rotate_left
  · intro w'
    go_simp
    with_reducible rfl
  rotate_left
  · simp only [Act.put, List.setIfInBounds_toArray, List.set_cons_zero, List.set_cons_succ, i64_w, i32_w]
    rfl
  refine pure_ (i := 4) (N := some 21) (v := ?_) (a' := ?_) #[true, false, true, false, true, false, false, false] rfl rfl (by kernel_rfl) (fun _ _ _ h => h) (Or.inl ⟨by rfl, ?_⟩) ?_ ?_
  rotate_left
  · intro w'
    go_simp
    with_reducible rfl
  rotate_left
  · simp only [Act.put, List.setIfInBounds_toArray, List.set_cons_zero, List.set_cons_succ, i64_w, i32_w]
    rfl
  refine take_ (i := 1) (N := some 18) (v := ?_) (a' := ?_) #[true, true, true, false, true, false, false, false] rfl rfl (by kernel_rfl) (fun _ _ _ h => h) (Or.inl ⟨by rfl, ?_⟩) hHeld ?_ ?_
  rotate_left
  · rintro w' ⟨s0, s1⟩
    go_simp
    with_reducible rfl
  rotate_left
  · simp only [Act.put, List.setIfInBounds_toArray, List.set_cons_zero, List.set_cons_succ, i64_w, i32_w]
    rfl
  refine pure_ (i := 5) (N := some 2) (v := ?_) (a' := ?_) #[true, true, true, false, true, true, false, false] rfl rfl (by kernel_rfl) (fun _ _ _ h => h) (Or.inl ⟨by rfl, ?_⟩) ?_ ?_
  rotate_left
  · intro w'
    go_simp
    with_reducible rfl
  rotate_left
  · simp only [Act.put, List.setIfInBounds_toArray, List.set_cons_zero, List.set_cons_succ, i64_w, i32_w]
    rfl
  refine take_ (i := 3) (N := some 20) (v := ?_) (a' := ?_) #[true, true, true, true, true, true, false, false] rfl rfl (by kernel_rfl) (fun _ _ _ h => h) (Or.inl ⟨by rfl, ?_⟩) hHeld ?_ ?_
  rotate_left
  · rintro w' ⟨s0, s1⟩
    go_simp
    with_reducible rfl
  rotate_left
  · simp only [Act.put, List.setIfInBounds_toArray, List.set_cons_zero, List.set_cons_succ, i64_w, i32_w]
    rfl
  refine pure_ (i := 6) (N := some 3) (v := ?_) (a' := ?_) #[true, true, true, true, true, true, true, false] rfl rfl (by kernel_rfl) (fun _ _ _ h => h) (Or.inl ⟨by rfl, ?_⟩) ?_ ?_
  rotate_left
  · intro w'
    go_simp
    with_reducible rfl
  rotate_left
  · simp only [Act.put, List.setIfInBounds_toArray, List.set_cons_zero, List.set_cons_succ, i64_w, i32_w]
    rfl
  refine pure_ (i := 7) (N := some 4) (v := ?_) (a' := ?_) #[true, true, true, true, true, true, true, true] rfl rfl (by kernel_rfl) (fun _ _ _ h => h) (Or.inl ⟨by rfl, ?_⟩) ?_ ?_
  rotate_left
  · intro w'
    go_simp
    with_reducible rfl
  rotate_left
  · simp only [Act.put, List.setIfInBounds_toArray, List.set_cons_zero, List.set_cons_succ, i64_w, i32_w]
    rfl
  refine done_ (by kernel_rfl) ?_
  go_wp2
  go_ret3
  exact ⟨rfl, K2.drew⟩
end Go.Proofs.Ytaceikdmepeoiaa
