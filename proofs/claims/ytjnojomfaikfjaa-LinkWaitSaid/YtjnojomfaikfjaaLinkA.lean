/- link.Link: what it is in memory; Time. -/
import Derived.Test.YtjnojomfaikfjaaQueueE
import Derived.Test.YtjnojomfaikfjaaJitterC
import Derived.Test.YtjnojomfaikfjaaPathA
namespace Go.Proofs.Ytjnojomfaikfjaa
set_option linter.unusedSimpArgs false
set_option linter.unusedVariables false
open Go.RowKit Go.Proofs.YtjnojomfaikfjaaW.PrintLast
/-- Where its parts lie. -/
structure LA where
  a : Nat
  b : Nat
  q : Nat
  qr : Nat
  qp : Nat
  j : Nat
  jr : Nat
  jp : Nat
structure LnkAt (w : World) (z : LA) (s : Lnk) : Prop where
  blk : Blk w z.a 116 [.int .u64 s.ra, .int .u64 s.de, .int .u64 s.ji, .int .u64 s.bu, .int .u64 s.now, .pointer (some ⟨z.b, 0, none⟩), .pointer (some ⟨z.q, 0, none⟩), .pointer (some ⟨z.j, 0, none⟩), .int .u64 s.came, .int .u64 0, .int .u64 0, .int .u64 s.served, .int .u64 0, .int .u64 s.delivered]
  hb : BktAt w z.b s.B
  hq : QueAt w z.q z.qr z.qp s.Q
  hj : JbxAt w z.j z.jr z.jp s.J
theorem LnkAt.keeps0 {w w' : World} {z : LA} {s : Lnk} (h : LnkAt w z s) (k : Keeps [] w w') : LnkAt w' z s :=
  ⟨h.blk.keeps k (by simp), h.hb.keeps k (by simp), h.hq.keeps k (by simp) (by simp) (by simp), h.hj.keeps k (by simp) (by simp) (by simp)⟩
/-- the parts lie apart -/
structure LA.Apart (z : LA) : Prop where
  n01 : z.a ≠ z.b
  n02 : z.a ≠ z.q
  n03 : z.a ≠ z.qr
  n04 : z.a ≠ z.qp
  n05 : z.a ≠ z.j
  n06 : z.a ≠ z.jr
  n07 : z.a ≠ z.jp
  n12 : z.b ≠ z.q
  n13 : z.b ≠ z.qr
  n14 : z.b ≠ z.qp
  n15 : z.b ≠ z.j
  n16 : z.b ≠ z.jr
  n17 : z.b ≠ z.jp
  n23 : z.q ≠ z.qr
  n24 : z.q ≠ z.qp
  n25 : z.q ≠ z.j
  n26 : z.q ≠ z.jr
  n27 : z.q ≠ z.jp
  n34 : z.qr ≠ z.qp
  n35 : z.qr ≠ z.j
  n36 : z.qr ≠ z.jr
  n37 : z.qr ≠ z.jp
  n45 : z.qp ≠ z.j
  n46 : z.qp ≠ z.jr
  n47 : z.qp ≠ z.jp
  n56 : z.j ≠ z.jr
  n57 : z.j ≠ z.jp
  n67 : z.jr ≠ z.jp
theorem LnkAt.apart {w : World} {z : LA} {s : Lnk} (h : LnkAt w z s) : z.Apart := by
  obtain ⟨_, _, _, _, hr⟩ := h.hq.row
  obtain ⟨_, _, _, _, hs⟩ := h.hj.row
  exact ⟨Blk.ne_ h.blk (show Blk _ _ _ _ from h.hb) (by decide), Blk.ne_ h.blk h.hq.blk (by decide), Blk.ne_ h.blk hr.ring (by decide), Blk.ne_ h.blk hr.places (by decide), Blk.ne_ h.blk h.hj.blk (by decide), Blk.ne_ h.blk hs.ring (by decide), Blk.ne_ h.blk hs.places (by decide), Blk.ne_ (show Blk _ _ _ _ from h.hb) h.hq.blk (by decide), Blk.ne_ (show Blk _ _ _ _ from h.hb) hr.ring (by decide), Blk.ne_ (show Blk _ _ _ _ from h.hb) hr.places (by decide), Blk.ne_ (show Blk _ _ _ _ from h.hb) h.hj.blk (by decide), Blk.ne_ (show Blk _ _ _ _ from h.hb) hs.ring (by decide), Blk.ne_ (show Blk _ _ _ _ from h.hb) hs.places (by decide), Blk.ne_ h.hq.blk hr.ring (by decide), Blk.ne_ h.hq.blk hr.places (by decide), Blk.ne_ h.hq.blk h.hj.blk (by decide), Blk.ne_ h.hq.blk hs.ring (by decide), Blk.ne_ h.hq.blk hs.places (by decide), Blk.ne_ hr.ring hr.places (by decide), Blk.ne_ hr.ring h.hj.blk (by decide), Blk.ne_ hr.ring hs.ring (by decide), Blk.ne_ hr.ring hs.places (by decide), Blk.ne_ hr.places h.hj.blk (by decide), Blk.ne_ hr.places hs.ring (by decide), Blk.ne_ hr.places hs.places (by decide), Blk.ne_ h.hj.blk hs.ring (by decide), Blk.ne_ h.hj.blk hs.places (by decide), Blk.ne_ hs.ring hs.places (by decide)⟩
theorem lnk_time (z : LA) (s : Lnk) (w : World) (h : LnkAt w z s) : Calls Try.prog 16 #[.pointer (some ⟨z.a, 0, none⟩)] w fun e w' => e = .returned (.int .u64 s.now) ∧ w' = w := by
  have g4 := h.blk.cell 4
  simp only [List.getElem?_cons_zero, List.getElem?_cons_succ] at g4
  go_enter Try.func16, Try.ntmps16
  go_wp2
  go_ret
  exact ⟨rfl, rfl⟩
set_option maxRecDepth 100000 in
theorem lnk_tokens (z : LA) (s : Lnk) (w : World) (h : LnkAt w z s) : Calls Try.prog 28 #[.pointer (some ⟨z.a, 0, none⟩)] w fun e w' => e = .returned (.tuple #[.int .u64 s.B.tok, .int .u64 s.B.was]) ∧ Keeps [] w w' := by
  have g5 := h.blk.cell 5
  simp only [List.getElem?_cons_zero, List.getElem?_cons_succ] at g5
  have h1 := h.keeps0 ((Keeps.refl [] w).drew)
  go_enter Try.func28, Try.ntmps28
  go_wp2_with (fail)
  refine start_ (n := 12) (S := fun w' => w'.cell? ⟨z.a, 5, none⟩ = some (.pointer (some ⟨z.b, 0, none⟩))) (ds := []) #[false, false, false, false, false, false, false, false, false, false, false, false] (by kernel_rfl) rfl rfl (g5) (fun hHeld => ?_)
  refine pure_ (i := 0) (N := some 6) (v := ?_) (a' := ?_) #[true, false, false, false, false, false, false, false, false, false, false, false] rfl rfl (by kernel_rfl) (fun _ _ _ h => h) (Or.inl ⟨by rfl, ?_⟩) ?_ ?_
  rotate_left
  · intro w'
    go_simp
    with_reducible rfl
  rotate_left
  · simp only [Act.put, List.setIfInBounds_toArray, List.set_cons_zero, List.set_cons_succ, i64_w, i32_w]
    rfl
  refine pure_ (i := 1) (N := some 7) (v := ?_) (a' := ?_) #[true, true, false, false, false, false, false, false, false, false, false, false] rfl rfl (by kernel_rfl) (fun _ _ _ h => h) (Or.inl ⟨by rfl, ?_⟩) ?_ ?_
  rotate_left
  · intro w'
    go_simp
    with_reducible rfl
  rotate_left
  · simp only [Act.put, List.setIfInBounds_toArray, List.set_cons_zero, List.set_cons_succ, i64_w, i32_w]
    rfl
  refine pure_ (i := 2) (N := some 8) (v := ?_) (a' := ?_) #[true, true, true, false, false, false, false, false, false, false, false, false] rfl rfl (by kernel_rfl) (fun _ _ _ h => h) (Or.inl ⟨by rfl, ?_⟩) ?_ ?_
  rotate_left
  · intro w'
    go_simp
    with_reducible rfl
  rotate_left
  · simp only [Act.put, List.setIfInBounds_toArray, List.set_cons_zero, List.set_cons_succ, i64_w, i32_w]
    rfl
  refine pure_ (i := 5) (N := some 11) (v := ?_) (a' := ?_) #[true, true, true, false, false, true, false, false, false, false, false, false] rfl rfl (by kernel_rfl) (fun _ _ _ h => h) (Or.inl ⟨by rfl, ?_⟩) ?_ ?_
  rotate_left
  · intro w'
    go_simp
    with_reducible rfl
  rotate_left
  · simp only [Act.put, List.setIfInBounds_toArray, List.set_cons_zero, List.set_cons_succ, i64_w, i32_w]
    rfl
  refine pure_ (i := 6) (N := some 12) (v := ?_) (a' := ?_) #[true, true, true, false, false, true, true, false, false, false, false, false] rfl rfl (by kernel_rfl) (fun _ _ _ h => h) (Or.inl ⟨by rfl, ?_⟩) ?_ ?_
  rotate_left
  · intro w'
    go_simp
    with_reducible rfl
  rotate_left
  · simp only [Act.put, List.setIfInBounds_toArray, List.set_cons_zero, List.set_cons_succ, i64_w, i32_w]
    rfl
  refine pure_ (i := 7) (N := some 13) (v := ?_) (a' := ?_) #[true, true, true, false, false, true, true, true, false, false, false, false] rfl rfl (by kernel_rfl) (fun _ _ _ h => h) (Or.inl ⟨by rfl, ?_⟩) ?_ ?_
  rotate_left
  · intro w'
    go_simp
    with_reducible rfl
  rotate_left
  · simp only [Act.put, List.setIfInBounds_toArray, List.set_cons_zero, List.set_cons_succ, i64_w, i32_w]
    rfl
  refine take_ (i := 3) (N := some 9) (v := ?_) (a' := ?_) #[true, true, true, true, false, true, true, true, false, false, false, false] rfl rfl (by kernel_rfl) (fun _ _ _ h => h) (Or.inl ⟨by rfl, ?_⟩) hHeld ?_ ?_
  rotate_left
  · intro w' s0
    go_simp
    with_reducible rfl
  rotate_left
  · simp only [Act.put, List.setIfInBounds_toArray, List.set_cons_zero, List.set_cons_succ, i64_w, i32_w]
    rfl
  refine take_ (i := 8) (N := some 14) (v := ?_) (a' := ?_) #[true, true, true, true, false, true, true, true, true, false, false, false] rfl rfl (by kernel_rfl) (fun _ _ _ h => h) (Or.inl ⟨by rfl, ?_⟩) hHeld ?_ ?_
  rotate_left
  · intro w' s0
    go_simp
    with_reducible rfl
  rotate_left
  · simp only [Act.put, List.setIfInBounds_toArray, List.set_cons_zero, List.set_cons_succ, i64_w, i32_w]
    rfl
  refine one_ (i := 4) (N := some 10) #[true, true, true, true, true, true, true, true, true, false, false, false] rfl rfl (by kernel_rfl) (by decide) (fun K hK => ?_)
  refine goes_ Try.func70 (by kernel_rfl) rfl #[.pointer (some ⟨z.b, 0, none⟩)] (by rfl) rfl rfl (by simp only [List.map_toArray, List.map_cons, List.map_nil]; rfl) ?_
  with_reducible refine (bkt_tokens z.b s.B w.drew h1.hb).mono ?_
  rintro e w3 ⟨rfl, rfl⟩
  refine ⟨_, rfl, ?_⟩
  refine hK.out _ _ (hHeld) (fun hHeld => ?_)
  clear hK K
  refine norm_ (a' := ?_) ?_ ?_
  rotate_left
  · show Act.put _ (some 10) _ = _
    simp only [Act.put, List.setIfInBounds_toArray, List.set_cons_zero, List.set_cons_succ, i64_w, i32_w]
    rfl
  refine one_ (i := 9) (N := some 15) #[true, true, true, true, true, true, true, true, true, true, false, false] rfl rfl (by kernel_rfl) (by decide) (fun K hK => ?_)
  refine goes_ Try.func71 (by kernel_rfl) rfl #[.pointer (some ⟨z.b, 0, none⟩)] (by rfl) rfl rfl (by simp only [List.map_toArray, List.map_cons, List.map_nil]; rfl) ?_
  with_reducible refine (bkt_wasted z.b s.B w.drew h1.hb).mono ?_
  rintro e w4 ⟨rfl, rfl⟩
  refine ⟨_, rfl, ?_⟩
  refine hK.out _ _ (hHeld) (fun hHeld => ?_)
  clear hK K
  refine norm_ (a' := ?_) ?_ ?_
  rotate_left
  · show Act.put _ (some 15) _ = _
    simp only [Act.put, List.setIfInBounds_toArray, List.set_cons_zero, List.set_cons_succ, i64_w, i32_w]
    rfl
  refine pure_ (i := 10) (N := some 2) (v := ?_) (a' := ?_) #[true, true, true, true, true, true, true, true, true, true, true, false] rfl rfl (by kernel_rfl) (fun _ _ _ h => h) (Or.inl ⟨by rfl, ?_⟩) ?_ ?_
  rotate_left
  · intro w'
    go_simp
    with_reducible rfl
  rotate_left
  · simp only [Act.put, List.setIfInBounds_toArray, List.set_cons_zero, List.set_cons_succ, i64_w, i32_w]
    rfl
  refine pure_ (i := 11) (N := some 3) (v := ?_) (a' := ?_) #[true, true, true, true, true, true, true, true, true, true, true, true] rfl rfl (by kernel_rfl) (fun _ _ _ h => h) (Or.inl ⟨by rfl, ?_⟩) ?_ ?_
  rotate_left
  · intro w'
    go_simp
    with_reducible rfl
  rotate_left
  · simp only [Act.put, List.setIfInBounds_toArray, List.set_cons_zero, List.set_cons_succ, i64_w, i32_w]
    rfl
  refine done_ (by kernel_rfl) ?_
  go_wp2
  go_ret2
  exact ⟨rfl, (Keeps.refl [] w).drew⟩
end Go.Proofs.Ytjnojomfaikfjaa
