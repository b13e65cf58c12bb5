/- link.Link: serve. -/
import Derived.Test.YtjnojomfaikfjaaLinkC
import Derived.Test.YtjnojomfaikfjaaLinkQ
import Derived.Deep.Slices
namespace Go.Proofs.Ytjnojomfaikfjaa
set_option linter.unusedSimpArgs false
set_option linter.unusedVariables false
open Go.RowKit Go.Proofs.YtjnojomfaikfjaaW.PrintLast
def LA.all (z : LA) : List Nat := [z.a, z.b, z.q, z.qr, z.qp, z.j, z.jr, z.jp]
/-- numbers in a slice, none of them in bs -/
structure ChAt (w : World) (v : Value) (l : List Int) (bs : List Nat) : Prop where
  ex : ∃ A c, v = .slice A l.length c ∧ l.length ≤ c ∧ ∀ k (h : k < l.length), ∃ a, A = some a ∧ w.cell? (a.add k) = some (.int .u64 l[k]) ∧ (a.add k).block ∉ bs ∧ (a.add k).block < w.heap.size
theorem ChAt.keeps {w w' : World} {v : Value} {l : List Int} {bs cs : List Nat} (h : ChAt w v l bs) (k : Keeps cs w w') (hc : ∀ c ∈ cs, c ∈ bs ∨ w.heap.size ≤ c) : ChAt w' v l bs := by
  obtain ⟨A, c, h1, h2, h3⟩ := h
  refine ⟨A, c, h1, h2, fun i hi => ?_⟩
  obtain ⟨a, e1, e2, e3, e4⟩ := h3 i hi
  refine ⟨a, e1, (k.cell e4 ?_).trans e2, e3, Nat.lt_of_lt_of_le e4 k.size⟩
  intro hm
  rcases hc _ hm with h | h
  · exact e3 h
  · omega
theorem ChAt.tail {w : World} {a : Addr} {c0 : Int} {cap : Nat} {l : List Int} {bs : List Nat} (h : ChAt w (.slice (some a) (l.length + 1) cap) (c0 :: l) bs) : ChAt w (.slice (if cap = 1 then some a else some ⟨a.block, a.off + 1, none⟩) l.length (cap - 1)) l bs := by
  obtain ⟨A, c, h1, h2, h3⟩ := h
  simp only [Value.slice.injEq] at h1
  obtain ⟨rfl, _, rfl⟩ := h1
  simp only [List.length_cons] at h2
  refine ⟨_, cap - 1, rfl, by omega, fun i hi => ?_⟩
  obtain ⟨a', e1, e2, e3, e4⟩ := h3 (i + 1) (by simp; omega)
  cases e1
  have e6 : a.add 1 = ⟨a.block, a.off + 1, none⟩ := by unfold Addr.add; simp
  have e5 : a.add (i + 1) = (a.add 1).add i := by rw [Go.Deep.add_add]; congr 1; omega
  rw [List.getElem_cons_succ, e5, e6] at e2
  rw [e5, e6] at e3 e4
  rw [if_neg (by omega)]
  exact ⟨_, rfl, e2, e3, e4⟩
theorem ChAt.head {w : World} {v : Value} {c0 : Int} {l : List Int} {bs : List Nat} (h : ChAt w v (c0 :: l) bs) : ∃ a cap, v = .slice (some a) (l.length + 1) cap ∧ l.length + 1 ≤ cap ∧ w.cell? a = some (.int .u64 c0) := by
  obtain ⟨A, c, h1, h2, h3⟩ := h
  obtain ⟨a, rfl, e2, _⟩ := h3 0 (by simp)
  refine ⟨a, c, h1, h2, ?_⟩
  have e0 : a.add 0 = a := by unfold Addr.add; cases a; simp
  rw [e0] at e2
  simpa using e2
set_option maxHeartbeats 16000000 in
set_option maxRecDepth 100000 in
theorem lnk_serve (z : LA) (s : Lnk) (cs : List Int) (v : Value) (n : Nat) (w : World) (h : LnkAt w z s) (ok : s.Ok n) (hn : n ≤ 900000) (hcs : ∀ c ∈ cs, U64 c) (C : ChAt w v cs z.all) :
    Calls Try.prog 54 #[.pointer (some ⟨z.a, 0, none⟩), v] w fun e w' => e = .returned (.tuple #[]) ∧ (∃ jp, LnkAt w' (z.withJ jp) (s.serve s.Q.xs cs) ∧ (jp = z.jp ∨ w.heap.size ≤ jp)) ∧ Keeps z.all w w' := by
  go_enter Try.func54, Try.ntmps54
  go_wp2_with (fail)
  go_loopw [1] (fun u wr => ∃ (l : List Int) (sk : Lnk) (jp : Nat), ChAt w u l z.all ∧ LnkAt wr (z.withJ jp) sk ∧ sk.Ok n ∧ (∀ c ∈ l, U64 c) ∧ sk.serve sk.Q.xs l = s.serve s.Q.xs cs ∧ (jp = z.jp ∨ w.heap.size ≤ jp) ∧ Keeps z.all w wr) (fun _ wr => ringLen wr z.qr)
  case atStart => exact ⟨cs, s, z.jp, C, h, ok, hcs, rfl, .inl rfl, Keeps.refl _ _⟩
  case round =>
    obtain ⟨l, sk, jp, C1, H, okk, hl, heq, hjp, K⟩ := hrel
    clear h ok hcs
    have hlr : ringLen wr z.qr = sk.Q.xs.length := by have h' := ringLen_eq H.hq.row; simp only [LA.withJ, List.length_map] at h'; exact h'
    have g6 := H.blk.cell 6
    simp only [LA.withJ, List.getElem?_cons_zero, List.getElem?_cons_succ] at g6
    replace heq : Hid _ := heq
    cases hx : sk.Q.xs with
    | nil =>
      have hhd := que_head_no z.q z.qr z.qp sk.Q wr H.hq hx
      go_wp2_with (fail)
      refine hhd.mono ?_
      rintro e w1 ⟨rfl, hk⟩
      clear hhd
      have H1 := (H.keeps0 hk).keeps0 ((Keeps.refl [] w1).alloc (.cells #[.int .u64 0, .int .u64 0, .int .u64 0, .int .u64 0, .int .u64 0, .int .u64 0, .bool false] 73))
      have K1 := (K.trans hk (by simp)).alloc (.cells #[.int .u64 0, .int .u64 0, .int .u64 0, .int .u64 0, .int .u64 0, .int .u64 0, .bool false] 73)
      have e1 : sk.serve sk.Q.xs l = sk := by rw [hx]; rfl
      replace heq : Hid _ := e1.symm.trans heq.out
      clear H K hk g6 hx hlr e1
      go_wp2_with (fail)
      refine start_ (n := 12) (S := fun w' => True) (ds := []) #[false, false, false, false, false, false, false, false, false, false, false, false] (by kernel_rfl) rfl rfl (trivial) (fun hHeld => ?_)
      refine pure_ (i := 0) (N := some 15) (v := ?_) (a' := ?_) #[true, false, false, false, false, false, false, false, false, false, false, false] rfl rfl (by kernel_rfl) (fun _ _ _ h => h) (Or.inl ⟨by rfl, ?_⟩) ?_ ?_
      rotate_left
      · intro w'
        go_simp
        with_reducible rfl
      rotate_left
      · simp only [Act.put, List.setIfInBounds_toArray, List.set_cons_zero, List.set_cons_succ, i64_w, i32_w]
        rfl
      refine pure_ (i := 1) (N := some 16) (v := ?_) (a' := ?_) #[true, true, false, false, false, false, false, false, false, false, false, false] rfl rfl (by kernel_rfl) (fun _ _ _ h => h) (Or.inl ⟨by rfl, ?_⟩) ?_ ?_
      rotate_left
      · intro w'
        go_simp
        with_reducible rfl
      rotate_left
      · simp only [Act.put, List.setIfInBounds_toArray, List.set_cons_zero, List.set_cons_succ, i64_w, i32_w]
        rfl
      refine pure_ (i := 2) (N := some 17) (v := ?_) (a' := ?_) #[true, true, true, false, false, false, false, false, false, false, false, false] rfl rfl (by kernel_rfl) (fun _ _ _ h => h) (Or.inl ⟨by rfl, ?_⟩) ?_ ?_
      rotate_left
      · intro w'
        go_simp
        with_reducible rfl
      rotate_left
      · simp only [Act.put, List.setIfInBounds_toArray, List.set_cons_zero, List.set_cons_succ, i64_w, i32_w]
        rfl
      refine pure_ (i := 3) (N := some 18) (v := undef) (a' := ?_) #[true, true, true, true, false, false, false, false, false, false, false, false] rfl rfl (by kernel_rfl) (fun _ _ _ h => h) (Or.inr ⟨by rfl, rfl⟩) ?_ ?_
      rotate_left
      · simp only [Act.put, List.setIfInBounds_toArray, List.set_cons_zero, List.set_cons_succ, i64_w, i32_w]
        rfl
      refine pure_ (i := 4) (N := some 19) (v := undef) (a' := ?_) #[true, true, true, true, true, false, false, false, false, false, false, false] rfl rfl (by kernel_rfl) (fun _ _ _ h => h) (Or.inr ⟨by rfl, rfl⟩) ?_ ?_
      rotate_left
      · simp only [Act.put, List.setIfInBounds_toArray, List.set_cons_zero, List.set_cons_succ, i64_w, i32_w]
        rfl
      refine pure_ (i := 5) (N := some 20) (v := undef) (a' := ?_) #[true, true, true, true, true, true, false, false, false, false, false, false] rfl rfl (by kernel_rfl) (fun _ _ _ h => h) (Or.inr ⟨by rfl, rfl⟩) ?_ ?_
      rotate_left
      · simp only [Act.put, List.setIfInBounds_toArray, List.set_cons_zero, List.set_cons_succ, i64_w, i32_w]
        rfl
      refine pure_ (i := 6) (N := some 21) (v := undef) (a' := ?_) #[true, true, true, true, true, true, true, false, false, false, false, false] rfl rfl (by kernel_rfl) (fun _ _ _ h => h) (Or.inr ⟨by rfl, rfl⟩) ?_ ?_
      rotate_left
      · simp only [Act.put, List.setIfInBounds_toArray, List.set_cons_zero, List.set_cons_succ, i64_w, i32_w]
        rfl
      refine pure_ (i := 7) (N := some 22) (v := undef) (a' := ?_) #[true, true, true, true, true, true, true, true, false, false, false, false] rfl rfl (by kernel_rfl) (fun _ _ _ h => h) (Or.inr ⟨by rfl, rfl⟩) ?_ ?_
      rotate_left
      · simp only [Act.put, List.setIfInBounds_toArray, List.set_cons_zero, List.set_cons_succ, i64_w, i32_w]
        rfl
      refine pure_ (i := 8) (N := some 23) (v := undef) (a' := ?_) #[true, true, true, true, true, true, true, true, true, false, false, false] rfl rfl (by kernel_rfl) (fun _ _ _ h => h) (Or.inr ⟨by rfl, rfl⟩) ?_ ?_
      rotate_left
      · simp only [Act.put, List.setIfInBounds_toArray, List.set_cons_zero, List.set_cons_succ, i64_w, i32_w]
        rfl
      refine pure_ (i := 9) (N := some 24) (v := undef) (a' := ?_) #[true, true, true, true, true, true, true, true, true, true, false, false] rfl rfl (by kernel_rfl) (fun _ _ _ h => h) (Or.inr ⟨by rfl, rfl⟩) ?_ ?_
      rotate_left
      · simp only [Act.put, List.setIfInBounds_toArray, List.set_cons_zero, List.set_cons_succ, i64_w, i32_w]
        rfl
      refine pure_ (i := 10) (N := some 25) (v := undef) (a' := ?_) #[true, true, true, true, true, true, true, true, true, true, true, false] rfl rfl (by kernel_rfl) (fun _ _ _ h => h) (Or.inr ⟨by rfl, rfl⟩) ?_ ?_
      rotate_left
      · simp only [Act.put, List.setIfInBounds_toArray, List.set_cons_zero, List.set_cons_succ, i64_w, i32_w]
        rfl
      refine pure_ (i := 11) (N := some 26) (v := ?_) (a' := ?_) #[true, true, true, true, true, true, true, true, true, true, true, true] rfl rfl (by kernel_rfl) (fun _ _ _ h => h) (Or.inl ⟨by rfl, ?_⟩) ?_ ?_
      rotate_left
      · intro w'
        go_simp
        with_reducible rfl
      rotate_left
      · simp only [Act.put, List.setIfInBounds_toArray, List.set_cons_zero, List.set_cons_succ, i64_w, i32_w]
        rfl
      refine done_ (by kernel_rfl) ?_
      go_wp2_with (fail)
      refine bodyPost_ret (results_none rfl _ _ _) rfl ?_
      have H2 := H1.keeps0 ((Keeps.refl [] _).drew)
      rw [heq.out] at H2
      exact ⟨rfl, ⟨jp, H2, hjp⟩, K1.drew⟩
    | cons p ps =>
      have hhd := que_head_yes z.q z.qr z.qp sk.Q p ps wr H.hq hx
      have hp0 := okk.qs p (by rw [hx]; simp)
      simp only [Pkt.val] at hhd
      go_wp2_with (fail)
      refine hhd.mono ?_
      rintro e w1 ⟨rfl, hk⟩
      clear hhd g6
      have H1 := H.keeps0 hk
      replace K := K.trans hk (by simp)
      clear H
      go_wp2_with (fail)
      obtain ⟨ap, hq, hj, hb⟩ : (z.withJ jp).Apart ∧ QueAt w1 z.q z.qr z.qp sk.Q ∧ JbxAt w1 z.j z.jr jp sk.J ∧ BktAt w1 z.b sk.B := ⟨H1.apart, H1.hq, H1.hj, H1.hb⟩
      have B : Blk w1 z.a 116 [.int .u64 sk.ra, .int .u64 sk.de, .int .u64 sk.ji, .int .u64 sk.bu, .int .u64 sk.now, .pointer (some ⟨z.b, 0, none⟩), .pointer (some ⟨z.q, 0, none⟩), .pointer (some ⟨z.j, 0, none⟩), .int .u64 sk.came, .int .u64 0, .int .u64 0, .int .u64 sk.served, .int .u64 0, .int .u64 sk.delivered] := H1.blk
      replace K : Keeps [z.a, z.b, z.q, z.qr, z.qp, z.j, z.jr, z.jp, jp] w w1 := K.mono (al_cons (.inl (by simp)) (al_cons (.inl (by simp)) (al_cons (.inl (by simp)) (al_cons (.inl (by simp)) (al_cons (.inl (by simp)) (al_cons (.inl (by simp)) (al_cons (.inl (by simp)) (al_cons (.inl (by simp)) al_nil))))))))
      clear H1 hk
      have hw1 := K.size
      have ne_z_a_b4 : z.a ≠ w1.heap.size := by have h_ := B.lt; omega
      have ne_z_b_b4 : z.b ≠ w1.heap.size := by have h_ := hb.lt; omega
      have ne_z_q_b4 : z.q ≠ w1.heap.size := by have h_ := hq.lt; omega
      have ne_z_qr_b4 : z.qr ≠ w1.heap.size := by have h_ := hq.lt; omega
      have ne_z_qp_b4 : z.qp ≠ w1.heap.size := by have h_ := hq.lt; omega
      have ne_z_j_b4 : z.j ≠ w1.heap.size := by have h_ := hj.lt; omega
      have ne_z_jr_b4 : z.jr ≠ w1.heap.size := by have h_ := hj.lt; omega
      have ne_jp_b4 : jp ≠ w1.heap.size := by have h_ := hj.lt; omega
      have fr_b4 : w.heap.size ≤ w1.heap.size := by have h_ := K.size; omega
      refine wp_at (fun W => Blk W z.a 116 [.int .u64 sk.ra, .int .u64 sk.de, .int .u64 sk.ji, .int .u64 sk.bu, .int .u64 sk.now, .pointer (some ⟨z.b, 0, none⟩), .pointer (some ⟨z.q, 0, none⟩), .pointer (some ⟨z.j, 0, none⟩), .int .u64 sk.came, .int .u64 0, .int .u64 0, .int .u64 sk.served, .int .u64 0, .int .u64 sk.delivered] ∧ BktAt W z.b sk.B ∧ QueAt W z.q z.qr z.qp sk.Q ∧ JbxAt W z.j z.jr jp sk.J ∧ Keeps [z.a, z.b, z.q, z.qr, z.qp, z.j, z.jr, z.jp, jp] w W ∧ Blk W w1.heap.size 73 [.int .u64 p.n, .int .u64 p.size, .int .u64 p.sent, .int .u64 p.first, .int .u64 p.del, .int .u64 p.at_, .bool p.lim]) (by
        refine ⟨?_, ?_, ?_, ?_, ?_, ?_⟩
        · exact (by (repeat (first | with_reducible exact B | with_reducible apply Blk.drew | with_reducible apply Blk.drewN | with_reducible refine Blk.newAt (by simp; done) | with_reducible apply Blk.alloc | with_reducible apply Blk.set2 | with_reducible apply Blk.far)); (all_goals (first | rfl | assumption | (exact Ne.symm (by assumption)) | (simp; done) | (simp; omega) | omega)))
        · exact (hb.keeps (bs := []) (by (repeat (first | with_reducible exact (Keeps.refl _ _) | with_reducible apply Keeps.drew | with_reducible apply Keeps.drewN | with_reducible apply Keeps.alloc | with_reducible apply Keeps.set_)); (all_goals (first | (left; simp; done) | (right; simp; done) | (right; simp; omega) | (right; omega)))) (List.not_mem_nil))
        · exact (hq.keeps (bs := []) (by (repeat (first | with_reducible exact (Keeps.refl _ _) | with_reducible apply Keeps.drew | with_reducible apply Keeps.drewN | with_reducible apply Keeps.alloc | with_reducible apply Keeps.set_)); (all_goals (first | (left; simp; done) | (right; simp; done) | (right; simp; omega) | (right; omega)))) (List.not_mem_nil) (List.not_mem_nil) (List.not_mem_nil))
        · exact (hj.keeps (bs := []) (by (repeat (first | with_reducible exact (Keeps.refl _ _) | with_reducible apply Keeps.drew | with_reducible apply Keeps.drewN | with_reducible apply Keeps.alloc | with_reducible apply Keeps.set_)); (all_goals (first | (left; simp; done) | (right; simp; done) | (right; simp; omega) | (right; omega)))) (List.not_mem_nil) (List.not_mem_nil) (List.not_mem_nil))
        · exact (by (repeat (first | with_reducible exact K | with_reducible apply Keeps.drew | with_reducible apply Keeps.drewN | with_reducible apply Keeps.alloc | with_reducible apply Keeps.set_)); (all_goals (first | (left; simp; done) | (right; assumption) | (right; simp; done) | (right; simp; omega) | (right; omega))))
        · exact (by (repeat (first | with_reducible refine Blk.newAt (by simp; done) | with_reducible apply Blk.drew | with_reducible apply Blk.drewN | with_reducible apply Blk.alloc | with_reducible apply Blk.set2 | with_reducible apply Blk.far)); (all_goals (first | rfl | assumption | (simp; done) | (simp; omega) | omega)))) ?_
      clear B hb hq hj K
      rintro W1 ⟨B, hb, hq, hj, K, T⟩
      generalize hb_b4 : w1.heap.size = b4 at *
      have hW1 := K.size
      have btk := bkt_take z.b sk.B p.size W1.drew hb.drew ⟨okk.tok, okk.was, okk.rate, by rw [okk.bnow]; exact okk.now⟩ hp0
      by_cases htk : sat (p.size * 1000000) ≤ sk.B.tok
      · rw [if_pos htk, decide_eq_true htk] at btk
        refine start_ (n := 12) (S := fun w' => Blk w' z.a 116 [.int .u64 sk.ra, .int .u64 sk.de, .int .u64 sk.ji, .int .u64 sk.bu, .int .u64 sk.now, .pointer (some ⟨z.b, 0, none⟩), .pointer (some ⟨z.q, 0, none⟩), .pointer (some ⟨z.j, 0, none⟩), .int .u64 sk.came, .int .u64 0, .int .u64 0, .int .u64 sk.served, .int .u64 0, .int .u64 sk.delivered] ∧ BktAt w' z.b sk.B ∧ QueAt w' z.q z.qr z.qp sk.Q ∧ JbxAt w' z.j z.jr jp sk.J ∧ Keeps [z.a, z.b, z.q, z.qr, z.qp, z.j, z.jr, z.jp, jp] w w' ∧ Blk w' b4 73 [.int .u64 p.n, .int .u64 p.size, .int .u64 p.sent, .int .u64 p.first, .int .u64 p.del, .int .u64 p.at_, .bool p.lim] ∧ w'.cell? ⟨z.a, 5, none⟩ = some (.pointer (some ⟨z.b, 0, none⟩)) ∧ w'.cell? ⟨b4, 1, none⟩ = some (.int .u64 p.size)) (ds := [9]) #[false, false, false, false, false, false, false, false, false, false, false, false] (by kernel_rfl) rfl rfl ⟨(Blk.drew B), (hb.keeps ((Keeps.refl [] _).drew) (List.not_mem_nil)), (hq.keeps ((Keeps.refl [] _).drew) (List.not_mem_nil) (List.not_mem_nil) (List.not_mem_nil)), (hj.keeps ((Keeps.refl [] _).drew) (List.not_mem_nil) (List.not_mem_nil) (List.not_mem_nil)), (Keeps.drew K), (Blk.drew T), ((Blk.cell (Blk.drew B) 5).trans rfl), ((Blk.cell (Blk.drew T) 1).trans rfl)⟩ (fun hHeld => ?_)
        refine pure_ (i := 0) (N := some 15) (v := ?_) (a' := ?_) #[true, false, false, false, false, false, false, false, false, false, false, false] rfl rfl (by kernel_rfl) (fun _ _ _ h => h) (Or.inl ⟨by rfl, ?_⟩) ?_ ?_
        rotate_left
        · intro w'
          go_simp
          with_reducible rfl
        rotate_left
        · simp only [Act.put, List.setIfInBounds_toArray, List.set_cons_zero, List.set_cons_succ, i64_w, i32_w]
          rfl
        refine pure_ (i := 1) (N := some 16) (v := ?_) (a' := ?_) #[true, true, false, false, false, false, false, false, false, false, false, false] rfl rfl (by kernel_rfl) (fun _ _ _ h => h) (Or.inl ⟨by rfl, ?_⟩) ?_ ?_
        rotate_left
        · intro w'
          go_simp
          with_reducible rfl
        rotate_left
        · simp only [Act.put, List.setIfInBounds_toArray, List.set_cons_zero, List.set_cons_succ, i64_w, i32_w]
          rfl
        refine pure_ (i := 2) (N := some 17) (v := ?_) (a' := ?_) #[true, true, true, false, false, false, false, false, false, false, false, false] rfl rfl (by kernel_rfl) (fun _ _ _ h => h) (Or.inl ⟨by rfl, ?_⟩) ?_ ?_
        rotate_left
        · intro w'
          go_simp
          with_reducible rfl
        rotate_left
        · simp only [Act.put, List.setIfInBounds_toArray, List.set_cons_zero, List.set_cons_succ, i64_w, i32_w]
          rfl
        refine pure_ (i := 3) (N := some 18) (v := ?_) (a' := ?_) #[true, true, true, true, false, false, false, false, false, false, false, false] rfl rfl (by kernel_rfl) (fun _ _ _ h => h) (Or.inl ⟨by rfl, ?_⟩) ?_ ?_
        rotate_left
        · intro w'
          go_simp
          with_reducible rfl
        rotate_left
        · simp only [Act.put, List.setIfInBounds_toArray, List.set_cons_zero, List.set_cons_succ, i64_w, i32_w]
          rfl
        refine pure_ (i := 4) (N := some 19) (v := ?_) (a' := ?_) #[true, true, true, true, true, false, false, false, false, false, false, false] rfl rfl (by kernel_rfl) (fun _ _ _ h => h) (Or.inl ⟨by rfl, ?_⟩) ?_ ?_
        rotate_left
        · intro w'
          go_simp
          with_reducible rfl
        rotate_left
        · simp only [Act.put, List.setIfInBounds_toArray, List.set_cons_zero, List.set_cons_succ, i64_w, i32_w]
          rfl
        refine pure_ (i := 5) (N := some 20) (v := ?_) (a' := ?_) #[true, true, true, true, true, true, false, false, false, false, false, false] rfl rfl (by kernel_rfl) (fun _ _ _ h => h) (Or.inl ⟨by rfl, ?_⟩) ?_ ?_
        rotate_left
        · intro w'
          go_simp
          with_reducible rfl
        rotate_left
        · simp only [Act.put, List.setIfInBounds_toArray, List.set_cons_zero, List.set_cons_succ, i64_w, i32_w]
          rfl
        refine pure_ (i := 7) (N := some 22) (v := ?_) (a' := ?_) #[true, true, true, true, true, true, false, true, false, false, false, false] rfl rfl (by kernel_rfl) (fun _ _ _ h => h) (Or.inl ⟨by rfl, ?_⟩) ?_ ?_
        rotate_left
        · intro w'
          go_simp
          with_reducible rfl
        rotate_left
        · simp only [Act.put, List.setIfInBounds_toArray, List.set_cons_zero, List.set_cons_succ, i64_w, i32_w]
          rfl
        refine take_ (i := 6) (N := some 21) (v := ?_) (a' := ?_) #[true, true, true, true, true, true, true, true, false, false, false, false] rfl rfl (by kernel_rfl) (fun _ _ _ h => h) (Or.inl ⟨by rfl, ?_⟩) hHeld ?_ ?_
        rotate_left
        · rintro w' ⟨s0, s1, s2, s3, s4, s5, s6, s7⟩
          go_simp
          with_reducible rfl
        rotate_left
        · simp only [Act.put, List.setIfInBounds_toArray, List.set_cons_zero, List.set_cons_succ, i64_w, i32_w]
          rfl
        refine take_ (i := 8) (N := some 23) (v := ?_) (a' := ?_) #[true, true, true, true, true, true, true, true, true, false, false, false] rfl rfl (by kernel_rfl) (fun _ _ _ h => h) (Or.inl ⟨by rfl, ?_⟩) hHeld ?_ ?_
        rotate_left
        · rintro w' ⟨s0, s1, s2, s3, s4, s5, s6, s7⟩
          go_simp
          with_reducible rfl
        rotate_left
        · simp only [Act.put, List.setIfInBounds_toArray, List.set_cons_zero, List.set_cons_succ, i64_w, i32_w]
          rfl
        refine last_ (i := 9) (N := some 24) #[true, true, true, true, true, true, true, true, true, true, false, false] rfl rfl (by kernel_rfl) (by decide) (fun K hK => ?_)
        refine goes_ Try.func97 (by kernel_rfl) rfl #[.pointer (some ⟨z.b, 0, none⟩), .int .u64 p.size] (by rfl) rfl rfl (by simp only [List.map_toArray, List.map_cons, List.map_nil]; rfl) ?_
        with_reducible refine (btk).mono ?_
        rintro e w3 ⟨rfl, hb3, k3⟩
        refine ⟨_, rfl, ?_⟩
        have hBase := And.intro (Blk.keeps hHeld.1 k3 ((nm_cons (ap.n01) List.not_mem_nil))) (And.intro (hHeld.2.2.1.keeps k3 ((nm_cons (Ne.symm (ap.n12)) List.not_mem_nil)) ((nm_cons (Ne.symm (ap.n13)) List.not_mem_nil)) ((nm_cons (Ne.symm (ap.n14)) List.not_mem_nil))) (And.intro (hHeld.2.2.2.1.keeps k3 ((nm_cons (Ne.symm (ap.n15)) List.not_mem_nil)) ((nm_cons (Ne.symm (ap.n16)) List.not_mem_nil)) ((nm_cons (Ne.symm (ap.n17)) List.not_mem_nil))) (And.intro (Keeps.trans hHeld.2.2.2.2.1 k3 (al_cons (.inl (by simp)) al_nil)) ((Blk.keeps hHeld.2.2.2.2.2.1 k3 ((nm_cons (Ne.symm (ne_z_b_b4)) List.not_mem_nil)))))))
        refine hK.out _ _ ?_
        clear hK K
        refine norm_ (a' := ?_) ?_ ?_
        rotate_left
        · show Act.put _ (some 24) _ = _
          simp only [Act.put, List.setIfInBounds_toArray, List.set_cons_zero, List.set_cons_succ, i64_w, i32_w]
          rfl
        refine pure_ (i := 10) (N := some 25) (v := ?_) (a' := ?_) #[true, true, true, true, true, true, true, true, true, true, true, false] rfl rfl (by kernel_rfl) (fun _ _ _ h => h) (Or.inl ⟨by rfl, ?_⟩) ?_ ?_
        rotate_left
        · intro w'
          go_simp
          with_reducible rfl
        rotate_left
        · simp only [Act.put, List.setIfInBounds_toArray, List.set_cons_zero, List.set_cons_succ, i64_w, i32_w]
          rfl
        refine pure_ (i := 11) (N := some 26) (v := ?_) (a' := ?_) #[true, true, true, true, true, true, true, true, true, true, true, true] rfl rfl (by kernel_rfl) (fun _ _ _ h => h) (Or.inl ⟨by rfl, ?_⟩) ?_ ?_
        rotate_left
        · intro w'
          go_simp
          with_reducible rfl
        rotate_left
        · simp only [Act.put, List.setIfInBounds_toArray, List.set_cons_zero, List.set_cons_succ, i64_w, i32_w]
          rfl
        refine done_ (by kernel_rfl) ?_
        clear hHeld B hb hq hj K T
        obtain ⟨B, hq, hj, K, T⟩ := hBase
        have hfr : w.heap.size ≤ w3.heap.size := Nat.le_trans hW1 k3.size
        refine exit_at (fun W => Blk W z.a 116 [.int .u64 sk.ra, .int .u64 sk.de, .int .u64 sk.ji, .int .u64 sk.bu, .int .u64 sk.now, .pointer (some ⟨z.b, 0, none⟩), .pointer (some ⟨z.q, 0, none⟩), .pointer (some ⟨z.j, 0, none⟩), .int .u64 sk.came, .int .u64 0, .int .u64 0, .int .u64 sk.served, .int .u64 0, .int .u64 sk.delivered] ∧ QueAt W z.q z.qr z.qp sk.Q ∧ JbxAt W z.j z.jr jp sk.J ∧ Keeps [z.a, z.b, z.q, z.qr, z.qp, z.j, z.jr, z.jp, jp] w W ∧ Blk W b4 73 [.int .u64 p.n, .int .u64 p.size, .int .u64 p.sent, .int .u64 p.first, .int .u64 p.del, .int .u64 p.at_, .bool p.lim] ∧ BktAt W z.b (sk.B.take p.size)) (by
          refine ⟨?_, ?_, ?_, ?_, ?_, ?_⟩
          · exact (by (repeat (first | with_reducible exact B | with_reducible apply Blk.drew | with_reducible apply Blk.drewN | with_reducible refine Blk.newAt (by simp; done) | with_reducible apply Blk.alloc | with_reducible apply Blk.set2 | with_reducible apply Blk.far)); (all_goals (first | rfl | assumption | (exact Ne.symm (by assumption)) | (simp; done) | (simp; omega) | omega)))
          · exact (hq.keeps (bs := []) (by (repeat (first | with_reducible exact (Keeps.refl _ _) | with_reducible apply Keeps.drew | with_reducible apply Keeps.drewN | with_reducible apply Keeps.alloc | with_reducible apply Keeps.set_)); (all_goals (first | (left; simp; done) | (right; simp; done) | (right; simp; omega) | (right; omega)))) (List.not_mem_nil) (List.not_mem_nil) (List.not_mem_nil))
          · exact (hj.keeps (bs := []) (by (repeat (first | with_reducible exact (Keeps.refl _ _) | with_reducible apply Keeps.drew | with_reducible apply Keeps.drewN | with_reducible apply Keeps.alloc | with_reducible apply Keeps.set_)); (all_goals (first | (left; simp; done) | (right; simp; done) | (right; simp; omega) | (right; omega)))) (List.not_mem_nil) (List.not_mem_nil) (List.not_mem_nil))
          · exact (by (repeat (first | with_reducible exact K | with_reducible apply Keeps.drew | with_reducible apply Keeps.drewN | with_reducible apply Keeps.alloc | with_reducible apply Keeps.set_)); (all_goals (first | (left; simp; done) | (right; assumption) | (right; simp; done) | (right; simp; omega) | (right; omega))))
          · exact (by (repeat (first | with_reducible exact T | with_reducible apply Blk.drew | with_reducible apply Blk.drewN | with_reducible refine Blk.newAt (by simp; done) | with_reducible apply Blk.alloc | with_reducible apply Blk.set2 | with_reducible apply Blk.far)); (all_goals (first | rfl | assumption | (exact Ne.symm (by assumption)) | (simp; done) | (simp; omega) | omega)))
          · exact (hb3.keeps (bs := []) (by (repeat (first | with_reducible exact (Keeps.refl _ _) | with_reducible apply Keeps.drew | with_reducible apply Keeps.drewN | with_reducible apply Keeps.alloc | with_reducible apply Keeps.set_)); (all_goals (first | (left; simp; done) | (right; simp; done) | (right; simp; omega) | (right; omega)))) (List.not_mem_nil))) ?_
        clear B hq hj K T hb3
        rintro W3 ⟨B, hq, hj, K, T, hb3⟩
        have c_B_6 := B.cell 6
        have f_B_6 := B.frozen 6
        have l_B := B.lt
        simp only [List.getElem?_cons_zero, List.getElem?_cons_succ] at c_B_6
        go_wp2_with (fail)
        have hle : p.size ≤ sk.Q.bytes := by
          have h1 := okk.bytes
          rw [hx] at h1
          simp only [List.map_cons, tot] at h1
          have h2 := Lnk.tot_pos (l := ps) (fun q hq => okk.qs q (by rw [hx]; simp [hq]))
          omega
        clear c_B_6 f_B_6 l_B
        refine (que_shift z.q z.qr z.qp sk.Q p ps W3 hq hx okk.ub hp0 hle).mono ?_
        rintro e w5 ⟨rfl, hq5, hk⟩
        replace B := (Blk.keeps B hk ((nm_cons (ap.n02) (nm_cons (ap.n03) (nm_cons (ap.n04) List.not_mem_nil)))))
        replace hj := (hj.keeps hk ((nm_cons (Ne.symm (ap.n25)) (nm_cons (Ne.symm (ap.n35)) (nm_cons (Ne.symm (ap.n45)) List.not_mem_nil)))) ((nm_cons (Ne.symm (ap.n26)) (nm_cons (Ne.symm (ap.n36)) (nm_cons (Ne.symm (ap.n46)) List.not_mem_nil)))) ((nm_cons (Ne.symm (ap.n27)) (nm_cons (Ne.symm (ap.n37)) (nm_cons (Ne.symm (ap.n47)) List.not_mem_nil)))))
        replace K := (Keeps.trans K hk (al_cons (.inl (by simp)) (al_cons (.inl (by simp)) (al_cons (.inl (by simp)) al_nil))))
        replace T := (Blk.keeps T hk ((nm_cons (Ne.symm (ne_z_q_b4)) (nm_cons (Ne.symm (ne_z_qr_b4)) (nm_cons (Ne.symm (ne_z_qp_b4)) List.not_mem_nil)))))
        replace hb3 := (hb3.keeps hk ((nm_cons (ap.n12) (nm_cons (ap.n13) (nm_cons (ap.n14) List.not_mem_nil)))))
        clear hq
        clear hk
        have hw5 : w.heap.size ≤ w5.heap.size := K.size
        cases l with
        | nil =>
          obtain ⟨A, cp, rfl, hcp, _⟩ := C1.ex
          have hch : U64 0 := ⟨by decide, by decide⟩
          simp only [List.length_nil] at C1
          go_wp2_with (fail)
          have hl_B := B.lt
          have f_B := fun i => B.frozen i
          have hl_T := T.lt
          have f_T := fun i => T.frozen i
          refine start_ (n := 14) (S := fun w' => Blk w' z.a 116 [.int .u64 sk.ra, .int .u64 sk.de, .int .u64 sk.ji, .int .u64 sk.bu, .int .u64 sk.now, .pointer (some ⟨z.b, 0, none⟩), .pointer (some ⟨z.q, 0, none⟩), .pointer (some ⟨z.j, 0, none⟩), .int .u64 sk.came, .int .u64 0, .int .u64 0, .int .u64 sk.served, .int .u64 0, .int .u64 sk.delivered] ∧ JbxAt w' z.j z.jr jp sk.J ∧ Keeps [z.a, z.b, z.q, z.qr, z.qp, z.j, z.jr, z.jp, jp] w w' ∧ Blk w' b4 73 [.int .u64 p.n, .int .u64 p.size, .int .u64 p.sent, .int .u64 p.first, .int .u64 p.del, .int .u64 p.at_, .bool p.lim] ∧ BktAt w' z.b (sk.B.take p.size) ∧ QueAt w' z.q z.qr z.qp ⟨sk.Q.room, sk.Q.bytes - p.size, sk.Q.dropped, sk.Q.gone, ps⟩ ∧ w'.cell? ⟨z.a, 11, none⟩ = some (.int .u64 sk.served) ∧ w'.cell? ⟨b4, 1, none⟩ = some (.int .u64 p.size)) (ds := [13]) #[false, false, false, false, false, false, false, false, false, false, false, false, false, false] (by kernel_rfl) rfl rfl ⟨(Blk.drew B), (hj.keeps ((Keeps.refl [] _).drew) (List.not_mem_nil) (List.not_mem_nil) (List.not_mem_nil)), (Keeps.drew K), (Blk.drew T), (hb3.keeps ((Keeps.refl [] _).drew) (List.not_mem_nil)), (hq5.keeps ((Keeps.refl [] _).drew) (List.not_mem_nil) (List.not_mem_nil) (List.not_mem_nil)), ((Blk.cell (Blk.drew B) 11).trans rfl), ((Blk.cell (Blk.drew T) 1).trans rfl)⟩ (fun hHeld => ?_)
          refine pure_ (i := 0) (N := some 40) (v := ?_) (a' := ?_) #[true, false, false, false, false, false, false, false, false, false, false, false, false, false] rfl rfl (by kernel_rfl) (fun _ _ _ h => h) (Or.inl ⟨by rfl, ?_⟩) ?_ ?_
          rotate_left
          · intro w'
            go_simp
            with_reducible rfl
          rotate_left
          · simp only [Act.put, List.setIfInBounds_toArray, List.set_cons_zero, List.set_cons_succ, i64_w, i32_w]
            rfl
          refine pure_ (i := 1) (N := some 41) (v := ?_) (a' := ?_) #[true, true, false, false, false, false, false, false, false, false, false, false, false, false] rfl rfl (by kernel_rfl) (fun _ _ _ h => h) (Or.inl ⟨by rfl, ?_⟩) ?_ ?_
          rotate_left
          · intro w'
            go_simp
            with_reducible rfl
          rotate_left
          · simp only [Act.put, List.setIfInBounds_toArray, List.set_cons_zero, List.set_cons_succ, i64_w, i32_w]
            rfl
          refine pure_ (i := 2) (N := some 42) (v := ?_) (a' := ?_) #[true, true, true, false, false, false, false, false, false, false, false, false, false, false] rfl rfl (by kernel_rfl) (fun _ _ _ h => h) (Or.inl ⟨by rfl, ?_⟩) ?_ ?_
          rotate_left
          · intro w'
            go_simp
            with_reducible rfl
          rotate_left
          · simp only [Act.put, List.setIfInBounds_toArray, List.set_cons_zero, List.set_cons_succ, i64_w, i32_w]
            rfl
          refine pure_ (i := 3) (N := some 43) (v := ?_) (a' := ?_) #[true, true, true, true, false, false, false, false, false, false, false, false, false, false] rfl rfl (by kernel_rfl) (fun _ _ _ h => h) (Or.inl ⟨by rfl, ?_⟩) ?_ ?_
          rotate_left
          · intro w'
            go_simp
            with_reducible rfl
          rotate_left
          · simp only [Act.put, List.setIfInBounds_toArray, List.set_cons_zero, List.set_cons_succ, i64_w, i32_w]
            rfl
          refine pure_ (i := 4) (N := some 44) (v := ?_) (a' := ?_) #[true, true, true, true, true, false, false, false, false, false, false, false, false, false] rfl rfl (by kernel_rfl) (fun _ _ _ h => h) (Or.inl ⟨by rfl, ?_⟩) ?_ ?_
          rotate_left
          · intro w'
            go_simp
            with_reducible rfl
          rotate_left
          · simp only [Act.put, List.setIfInBounds_toArray, List.set_cons_zero, List.set_cons_succ, i64_w, i32_w]
            rfl
          refine pure_ (i := 6) (N := some 46) (v := ?_) (a' := ?_) #[true, true, true, true, true, false, true, false, false, false, false, false, false, false] rfl rfl (by kernel_rfl) (fun _ _ _ h => h) (Or.inl ⟨by rfl, ?_⟩) ?_ ?_
          rotate_left
          · intro w'
            go_simp
            with_reducible rfl
          rotate_left
          · simp only [Act.put, List.setIfInBounds_toArray, List.set_cons_zero, List.set_cons_succ, i64_w, i32_w]
            rfl
          refine take_ (i := 5) (N := some 45) (v := ?_) (a' := ?_) #[true, true, true, true, true, true, true, false, false, false, false, false, false, false] rfl rfl (by kernel_rfl) (fun _ _ _ h => h) (Or.inl ⟨by rfl, ?_⟩) hHeld ?_ ?_
          rotate_left
          · rintro w' ⟨s0, s1, s2, s3, s4, s5, s6, s7⟩
            go_simp
            with_reducible rfl
          rotate_left
          · simp only [Act.put, List.setIfInBounds_toArray, List.set_cons_zero, List.set_cons_succ, i64_w, i32_w]
            rfl
          refine take_ (i := 7) (N := some 47) (v := ?_) (a' := ?_) #[true, true, true, true, true, true, true, true, false, false, false, false, false, false] rfl rfl (by kernel_rfl) (fun _ _ _ h => h) (Or.inl ⟨by rfl, ?_⟩) hHeld ?_ ?_
          rotate_left
          · rintro w' ⟨s0, s1, s2, s3, s4, s5, s6, s7⟩
            go_simp
            with_reducible rfl
          rotate_left
          · simp only [Act.put, List.setIfInBounds_toArray, List.set_cons_zero, List.set_cons_succ, i64_w, i32_w]
            rfl
          refine one_ (i := 8) (N := some 48) #[true, true, true, true, true, true, true, true, true, false, false, false, false, false] rfl rfl (by kernel_rfl) (by decide) (fun K hK => ?_)
          refine value_ (w1 := ?_) (v := ?_) (by rfl) rfl ?_ ?_
          rotate_left 2
          · go_simp
            constructor
            · rfl
            · rfl
          refine hK.out _ _ ⟨(Blk.alloc hHeld.1 _), (hHeld.2.1.keeps ((Keeps.refl [] _).alloc _) (List.not_mem_nil) (List.not_mem_nil) (List.not_mem_nil)), (Keeps.alloc hHeld.2.2.1 _), (Blk.alloc hHeld.2.2.2.1 _), (hHeld.2.2.2.2.1.keeps ((Keeps.refl [] _).alloc _) (List.not_mem_nil)), (hHeld.2.2.2.2.2.1.keeps ((Keeps.refl [] _).alloc _) (List.not_mem_nil) (List.not_mem_nil) (List.not_mem_nil)), ((Blk.cell (Blk.alloc hHeld.1 _) 11).trans rfl), ((Blk.cell (Blk.alloc hHeld.2.2.2.1 _) 1).trans rfl)⟩ ?_
          clear hK K hHeld
          intro hHeld
          refine norm_ (a' := ?_) ?_ ?_
          rotate_left
          · show Act.put _ (some 48) _ = _
            simp only [Act.put, List.setIfInBounds_toArray, List.set_cons_zero, List.set_cons_succ, i64_w, i32_w]
            rfl
          refine one_ (i := 9) (N := some 49) #[true, true, true, true, true, true, true, true, true, true, false, false, false, false] rfl rfl (by kernel_rfl) (by decide) (fun K hK => ?_)
          refine goes_ Try.func58 (by kernel_rfl) rfl #[.slice (some ⟨w5.heap.size, 0, none⟩) 2 2] (by rfl) rfl rfl (by simp only [List.map_toArray, List.map_cons, List.map_nil]; rfl) ?_
          with_reducible refine (add2 w5.heap.size sk.served p.size _ okk.served hp0 _ (Blk.drew (Blk.new w5 22 [.int .u64 sk.served, .int .u64 p.size]))).mono ?_
          rintro e w6 ⟨rfl, rfl⟩
          refine ⟨_, rfl, ?_⟩
          refine hK.out _ _ ⟨hHeld.1, hHeld.2.1, hHeld.2.2.1, hHeld.2.2.2.1, hHeld.2.2.2.2.1, hHeld.2.2.2.2.2.1, ((Blk.cell hHeld.1 11).trans rfl), ((Blk.cell hHeld.2.2.2.1 1).trans rfl)⟩ ?_
          clear hK K hHeld
          intro hHeld
          refine norm_ (a' := ?_) ?_ ?_
          rotate_left
          · show Act.put _ (some 49) _ = _
            simp only [Act.put, List.setIfInBounds_toArray, List.set_cons_zero, List.set_cons_succ, i64_w, i32_w]
            rfl
          refine pure_ (i := 10) (N := some 50) (v := ?_) (a' := ?_) #[true, true, true, true, true, true, true, true, true, true, true, false, false, false] rfl rfl (by kernel_rfl) (fun _ _ _ h => h) (Or.inl ⟨by rfl, ?_⟩) ?_ ?_
          rotate_left
          · intro w'
            go_simp
            with_reducible rfl
          rotate_left
          · simp only [Act.put, List.setIfInBounds_toArray, List.set_cons_zero, List.set_cons_succ, i64_w, i32_w]
            rfl
          refine pure_ (i := 11) (N := some 51) (v := ?_) (a' := ?_) #[true, true, true, true, true, true, true, true, true, true, true, true, false, false] rfl rfl (by kernel_rfl) (fun _ _ _ h => h) (Or.inl ⟨by rfl, ?_⟩) ?_ ?_
          rotate_left
          · intro w'
            go_simp
            with_reducible rfl
          rotate_left
          · simp only [Act.put, List.setIfInBounds_toArray, List.set_cons_zero, List.set_cons_succ, i64_w, i32_w]
            rfl
          refine pure_ (i := 12) (N := some 52) (v := ?_) (a' := ?_) #[true, true, true, true, true, true, true, true, true, true, true, true, true, false] rfl rfl (by kernel_rfl) (fun _ _ _ h => h) (Or.inl ⟨by rfl, ?_⟩) ?_ ?_
          rotate_left
          · intro w'
            go_simp
            with_reducible rfl
          rotate_left
          · simp only [Act.put, List.setIfInBounds_toArray, List.set_cons_zero, List.set_cons_succ, i64_w, i32_w]
            rfl
          refine last_ (i := 13) (N := none) #[true, true, true, true, true, true, true, true, true, true, true, true, true, true] rfl rfl (by kernel_rfl) (by decide) (fun K hK => ?_)
          refine skip_ (w1 := ?_) (by rfl) rfl ?_ ?_
          rotate_left
          · go_simp
            rfl
          refine hK.out _ _ ?_
          clear hK K
          refine done_ (by kernel_rfl) ?_
          clear hHeld f_B hl_B f_T hl_T
          refine exit_at (fun W => Blk W z.a 116 [.int .u64 sk.ra, .int .u64 sk.de, .int .u64 sk.ji, .int .u64 sk.bu, .int .u64 sk.now, .pointer (some ⟨z.b, 0, none⟩), .pointer (some ⟨z.q, 0, none⟩), .pointer (some ⟨z.j, 0, none⟩), .int .u64 sk.came, .int .u64 0, .int .u64 0, .int .u64 (sat (sk.served + p.size)), .int .u64 0, .int .u64 sk.delivered] ∧ JbxAt W z.j z.jr jp sk.J ∧ Keeps [z.a, z.b, z.q, z.qr, z.qp, z.j, z.jr, z.jp, jp] w W ∧ Blk W b4 73 [.int .u64 p.n, .int .u64 p.size, .int .u64 p.sent, .int .u64 p.first, .int .u64 p.del, .int .u64 p.at_, .bool p.lim] ∧ BktAt W z.b (sk.B.take p.size) ∧ QueAt W z.q z.qr z.qp ⟨sk.Q.room, sk.Q.bytes - p.size, sk.Q.dropped, sk.Q.gone, ps⟩) (by
            refine ⟨?_, ?_, ?_, ?_, ?_, ?_⟩
            · exact (by (repeat (first | with_reducible exact B | with_reducible apply Blk.drew | with_reducible apply Blk.drewN | with_reducible refine Blk.newAt (by simp; done) | with_reducible apply Blk.alloc | with_reducible apply Blk.set2 | with_reducible apply Blk.far)); (all_goals (first | rfl | assumption | (exact Ne.symm (by assumption)) | (simp; done) | (simp; omega) | omega)))
            · exact (hj.keeps (bs := [z.a]) (by (repeat (first | with_reducible exact (Keeps.refl _ _) | with_reducible apply Keeps.drew | with_reducible apply Keeps.drewN | with_reducible apply Keeps.alloc | with_reducible apply Keeps.set_)); (all_goals (first | (left; simp; done) | (right; simp; done) | (right; simp; omega) | (right; omega)))) ((nm_cons (Ne.symm (ap.n05)) List.not_mem_nil)) ((nm_cons (Ne.symm (ap.n06)) List.not_mem_nil)) ((nm_cons (Ne.symm (ap.n07)) List.not_mem_nil)))
            · exact (by (repeat (first | with_reducible exact K | with_reducible apply Keeps.drew | with_reducible apply Keeps.drewN | with_reducible apply Keeps.alloc | with_reducible apply Keeps.set_)); (all_goals (first | (left; simp; done) | (right; assumption) | (right; simp; done) | (right; simp; omega) | (right; omega))))
            · exact (by (repeat (first | with_reducible exact T | with_reducible apply Blk.drew | with_reducible apply Blk.drewN | with_reducible refine Blk.newAt (by simp; done) | with_reducible apply Blk.alloc | with_reducible apply Blk.set2 | with_reducible apply Blk.far)); (all_goals (first | rfl | assumption | (exact Ne.symm (by assumption)) | (simp; done) | (simp; omega) | omega)))
            · exact (hb3.keeps (bs := [z.a]) (by (repeat (first | with_reducible exact (Keeps.refl _ _) | with_reducible apply Keeps.drew | with_reducible apply Keeps.drewN | with_reducible apply Keeps.alloc | with_reducible apply Keeps.set_)); (all_goals (first | (left; simp; done) | (right; simp; done) | (right; simp; omega) | (right; omega)))) ((nm_cons (Ne.symm (ap.n01)) List.not_mem_nil)))
            · exact (hq5.keeps (bs := [z.a]) (by (repeat (first | with_reducible exact (Keeps.refl _ _) | with_reducible apply Keeps.drew | with_reducible apply Keeps.drewN | with_reducible apply Keeps.alloc | with_reducible apply Keeps.set_)); (all_goals (first | (left; simp; done) | (right; simp; done) | (right; simp; omega) | (right; omega)))) ((nm_cons (Ne.symm (ap.n02)) List.not_mem_nil)) ((nm_cons (Ne.symm (ap.n03)) List.not_mem_nil)) ((nm_cons (Ne.symm (ap.n04)) List.not_mem_nil)))) ?_
          clear B hj K T hb3 hq5
          rintro W6 ⟨B, hj, K, T, hb3, hq5⟩
          go_wp2_with (fail)
          have hput := jbx_put z.j z.jr jp sk.J p sk.now 0 W6.drew hj.drew okk.now okk.delay okk.jit hch (by have := okk.len; omega)
          simp only [Pkt.val] at hput
          have hW6 : w.heap.size ≤ W6.heap.size := K.size
          refine start_ (n := 11) (S := fun w' => Blk w' z.a 116 [.int .u64 sk.ra, .int .u64 sk.de, .int .u64 sk.ji, .int .u64 sk.bu, .int .u64 sk.now, .pointer (some ⟨z.b, 0, none⟩), .pointer (some ⟨z.q, 0, none⟩), .pointer (some ⟨z.j, 0, none⟩), .int .u64 sk.came, .int .u64 0, .int .u64 0, .int .u64 (sat (sk.served + p.size)), .int .u64 0, .int .u64 sk.delivered] ∧ JbxAt w' z.j z.jr jp sk.J ∧ Keeps [z.a, z.b, z.q, z.qr, z.qp, z.j, z.jr, z.jp, jp] w w' ∧ Blk w' b4 73 [.int .u64 p.n, .int .u64 p.size, .int .u64 p.sent, .int .u64 p.first, .int .u64 p.del, .int .u64 p.at_, .bool p.lim] ∧ BktAt w' z.b (sk.B.take p.size) ∧ QueAt w' z.q z.qr z.qp ⟨sk.Q.room, sk.Q.bytes - p.size, sk.Q.dropped, sk.Q.gone, ps⟩ ∧ w'.cell? ⟨z.a, 4, none⟩ = some (.int .u64 sk.now) ∧ w'.cell? ⟨z.a, 7, none⟩ = some (.pointer (some ⟨z.j, 0, none⟩)) ∧ w'.cell? ⟨b4, 0, none⟩ = some (.int .u64 p.n) ∧ w'.cell? ⟨b4, 1, none⟩ = some (.int .u64 p.size) ∧ w'.cell? ⟨b4, 2, none⟩ = some (.int .u64 p.sent) ∧ w'.cell? ⟨b4, 3, none⟩ = some (.int .u64 p.first) ∧ w'.cell? ⟨b4, 4, none⟩ = some (.int .u64 p.del) ∧ w'.cell? ⟨b4, 5, none⟩ = some (.int .u64 p.at_) ∧ w'.cell? ⟨b4, 6, none⟩ = some (.bool p.lim)) (ds := [10]) #[false, false, false, false, false, false, false, false, false, false, false] (by kernel_rfl) rfl rfl ⟨(Blk.drew B), (hj.keeps ((Keeps.refl [] _).drew) (List.not_mem_nil) (List.not_mem_nil) (List.not_mem_nil)), (Keeps.drew K), (Blk.drew T), (hb3.keeps ((Keeps.refl [] _).drew) (List.not_mem_nil)), (hq5.keeps ((Keeps.refl [] _).drew) (List.not_mem_nil) (List.not_mem_nil) (List.not_mem_nil)), ((Blk.cell (Blk.drew B) 4).trans rfl), ((Blk.cell (Blk.drew B) 7).trans rfl), ((Blk.cell (Blk.drew T) 0).trans rfl), ((Blk.cell (Blk.drew T) 1).trans rfl), ((Blk.cell (Blk.drew T) 2).trans rfl), ((Blk.cell (Blk.drew T) 3).trans rfl), ((Blk.cell (Blk.drew T) 4).trans rfl), ((Blk.cell (Blk.drew T) 5).trans rfl), ((Blk.cell (Blk.drew T) 6).trans rfl)⟩ (fun hHeld => ?_)
          refine pure_ (i := 0) (N := some 53) (v := ?_) (a' := ?_) #[true, false, false, false, false, false, false, false, false, false, false] rfl rfl (by kernel_rfl) (fun _ _ _ h => h) (Or.inl ⟨by rfl, ?_⟩) ?_ ?_
          rotate_left
          · intro w'
            go_simp
            with_reducible rfl
          rotate_left
          · simp only [Act.put, List.setIfInBounds_toArray, List.set_cons_zero, List.set_cons_succ, i64_w, i32_w]
            rfl
          refine pure_ (i := 1) (N := some 54) (v := ?_) (a' := ?_) #[true, true, false, false, false, false, false, false, false, false, false] rfl rfl (by kernel_rfl) (fun _ _ _ h => h) (Or.inl ⟨by rfl, ?_⟩) ?_ ?_
          rotate_left
          · intro w'
            go_simp
            with_reducible rfl
          rotate_left
          · simp only [Act.put, List.setIfInBounds_toArray, List.set_cons_zero, List.set_cons_succ, i64_w, i32_w]
            rfl
          refine pure_ (i := 2) (N := some 55) (v := ?_) (a' := ?_) #[true, true, true, false, false, false, false, false, false, false, false] rfl rfl (by kernel_rfl) (fun _ _ _ h => h) (Or.inl ⟨by rfl, ?_⟩) ?_ ?_
          rotate_left
          · intro w'
            go_simp
            with_reducible rfl
          rotate_left
          · simp only [Act.put, List.setIfInBounds_toArray, List.set_cons_zero, List.set_cons_succ, i64_w, i32_w]
            rfl
          refine pure_ (i := 5) (N := some 58) (v := ?_) (a' := ?_) #[true, true, true, false, false, true, false, false, false, false, false] rfl rfl (by kernel_rfl) (fun _ _ _ h => h) (Or.inl ⟨by rfl, ?_⟩) ?_ ?_
          rotate_left
          · intro w'
            go_simp
            with_reducible rfl
          rotate_left
          · simp only [Act.put, List.setIfInBounds_toArray, List.set_cons_zero, List.set_cons_succ, i64_w, i32_w]
            rfl
          refine pure_ (i := 6) (N := some 59) (v := ?_) (a' := ?_) #[true, true, true, false, false, true, true, false, false, false, false] rfl rfl (by kernel_rfl) (fun _ _ _ h => h) (Or.inl ⟨by rfl, ?_⟩) ?_ ?_
          rotate_left
          · intro w'
            go_simp
            with_reducible rfl
          rotate_left
          · simp only [Act.put, List.setIfInBounds_toArray, List.set_cons_zero, List.set_cons_succ, i64_w, i32_w]
            rfl
          refine pure_ (i := 7) (N := some 60) (v := ?_) (a' := ?_) #[true, true, true, false, false, true, true, true, false, false, false] rfl rfl (by kernel_rfl) (fun _ _ _ h => h) (Or.inl ⟨by rfl, ?_⟩) ?_ ?_
          rotate_left
          · intro w'
            go_simp
            with_reducible rfl
          rotate_left
          · simp only [Act.put, List.setIfInBounds_toArray, List.set_cons_zero, List.set_cons_succ, i64_w, i32_w]
            rfl
          refine pure_ (i := 9) (N := some 62) (v := ?_) (a' := ?_) #[true, true, true, false, false, true, true, true, false, true, false] rfl rfl (by kernel_rfl) (fun _ _ _ h => h) (Or.inl ⟨by rfl, ?_⟩) ?_ ?_
          rotate_left
          · intro w'
            go_simp
            with_reducible rfl
          rotate_left
          · simp only [Act.put, List.setIfInBounds_toArray, List.set_cons_zero, List.set_cons_succ, i64_w, i32_w]
            rfl
          refine take_ (i := 3) (N := some 56) (v := ?_) (a' := ?_) #[true, true, true, true, false, true, true, true, false, true, false] rfl rfl (by kernel_rfl) (fun _ _ _ h => h) (Or.inl ⟨by rfl, ?_⟩) hHeld ?_ ?_
          rotate_left
          · rintro w' ⟨s0, s1, s2, s3, s4, s5, s6, s7, s8, s9, s10, s11, s12, s13, s14⟩
            go_simp
            with_reducible rfl
          rotate_left
          · simp only [Act.put, List.setIfInBounds_toArray, List.set_cons_zero, List.set_cons_succ, i64_w, i32_w]
            rfl
          refine take_ (i := 4) (N := some 57) (v := ?_) (a' := ?_) #[true, true, true, true, true, true, true, true, false, true, false] rfl rfl (by kernel_rfl) (fun _ _ _ h => h) (Or.inl ⟨by rfl, ?_⟩) hHeld ?_ ?_
          rotate_left
          · rintro w' ⟨s0, s1, s2, s3, s4, s5, s6, s7, s8, s9, s10, s11, s12, s13, s14⟩
            go_simp
            with_reducible rfl
          rotate_left
          · simp only [Act.put, List.setIfInBounds_toArray, List.set_cons_zero, List.set_cons_succ, i64_w, i32_w]
            rfl
          refine take_ (i := 8) (N := some 61) (v := ?_) (a' := ?_) #[true, true, true, true, true, true, true, true, true, true, false] rfl rfl (by kernel_rfl) (fun _ _ _ h => h) (Or.inl ⟨by rfl, ?_⟩) hHeld ?_ ?_
          rotate_left
          · rintro w' ⟨s0, s1, s2, s3, s4, s5, s6, s7, s8, s9, s10, s11, s12, s13, s14⟩
            go_simp
            with_reducible rfl
          rotate_left
          · simp only [Act.put, List.setIfInBounds_toArray, List.set_cons_zero, List.set_cons_succ, i64_w, i32_w]
            rfl
          refine last_ (i := 10) (N := some 63) #[true, true, true, true, true, true, true, true, true, true, true] rfl rfl (by kernel_rfl) (by decide) (fun K hK => ?_)
          refine goes_ Try.func99 (by kernel_rfl) rfl #[.pointer (some ⟨z.j, 0, none⟩), .agg #[.int .u64 p.n, .int .u64 p.size, .int .u64 p.sent, .int .u64 p.first, .int .u64 p.del, .int .u64 p.at_, .bool p.lim], .int .u64 sk.now, .int .u64 0] (by rfl) rfl rfl (by simp only [List.map_toArray, List.map_cons, List.map_nil]; rfl) ?_
          with_reducible refine (hput).mono ?_
          rintro e w7 ⟨rfl, ⟨jp7, hj7, hjp7⟩, k7⟩
          refine ⟨_, rfl, ?_⟩
          have hBase := And.intro (Blk.keeps hHeld.1 k7 ((nm_cons (ap.n05) (nm_cons (ap.n06) (nm_cons (ap.n07) List.not_mem_nil))))) (And.intro (Keeps.trans hHeld.2.2.1 k7 (al_cons (.inl (by simp)) (al_cons (.inl (by simp)) (al_cons (.inl (by simp)) al_nil)))) (And.intro (Blk.keeps hHeld.2.2.2.1 k7 ((nm_cons (Ne.symm (ne_z_j_b4)) (nm_cons (Ne.symm (ne_z_jr_b4)) (nm_cons (Ne.symm (ne_jp_b4)) List.not_mem_nil))))) (And.intro (hHeld.2.2.2.2.1.keeps k7 ((nm_cons (ap.n15) (nm_cons (ap.n16) (nm_cons (ap.n17) List.not_mem_nil))))) ((hHeld.2.2.2.2.2.1.keeps k7 ((nm_cons (ap.n25) (nm_cons (ap.n26) (nm_cons (ap.n27) List.not_mem_nil)))) ((nm_cons (ap.n35) (nm_cons (ap.n36) (nm_cons (ap.n37) List.not_mem_nil)))) ((nm_cons (ap.n45) (nm_cons (ap.n46) (nm_cons (ap.n47) List.not_mem_nil)))))))))
          refine hK.out _ _ ?_
          clear hK K
          refine norm_ (a' := ?_) ?_ ?_
          rotate_left
          · show Act.put _ (some 63) _ = _
            simp only [Act.put, List.setIfInBounds_toArray, List.set_cons_zero, List.set_cons_succ, i64_w, i32_w]
            rfl
          refine done_ (by kernel_rfl) ?_
          clear hHeld B hj K T hb3 hq5
          obtain ⟨B, K, T, hb3, hq5⟩ := hBase
          clear hput k7
          have hqf : QueAt w7 z.q z.qr z.qp (sk.serve1 p 0).Q := by
            show QueAt _ _ _ _ ⟨_, _, _, _, sk.Q.xs.tail⟩
            rw [hx]; exact hq5
          have hl7 : ringLen w7 z.qr = ps.length := by have h' := ringLen_eq hq5.row; simp only [List.length_map] at h'; exact h'
          have hfin : LnkAt w7 (z.withJ jp7) (sk.serve1 p 0) := ⟨B, hb3, hqf, hj7⟩
          have hjp' : jp7 = z.jp ∨ w.heap.size ≤ jp7 := by
            rcases hjp7 with h' | h'
            · rw [h']; exact hjp
            · right; exact Nat.le_trans hW6 (by simpa using h')
          have ok7 := okk.serve1 hx hch htk
          have heq7 : Hid ((sk.serve1 p 0).serve (sk.serve1 p 0).Q.xs [] = s.serve s.Q.xs cs) := by
            show _ = _
            rw [← heq.out, hx, Lnk.serve, if_pos htk]
            show (sk.serve1 p 0).serve sk.Q.xs.tail [] = _
            rw [hx]; rfl
          have K7 : Keeps z.all w w7 := K.mono (al_cons (.inl (by simp [LA.all])) (al_cons (.inl (by simp [LA.all])) (al_cons (.inl (by simp [LA.all])) (al_cons (.inl (by simp [LA.all])) (al_cons (.inl (by simp [LA.all])) (al_cons (.inl (by simp [LA.all])) (al_cons (.inl (by simp [LA.all])) (al_cons (.inl (by simp [LA.all])) (al_cons (hjp.elim (fun h => .inl (by simp [LA.all, h])) .inr) al_nil)))))))))
          clear B hb3 hq5 hqf hj7 T K heq
          go_wp2_with (fail)
          go_roundw
          case rel => exact ⟨[], sk.serve1 p 0, jp7, C1, hfin, ok7, hl, heq7.out, hjp', K7⟩
          case measure => rw [hl7, hlr, hx]; simp
        | cons c0 l =>
          have C5 := C1.keeps K (al_cons (.inl (by simp [LA.all])) (al_cons (.inl (by simp [LA.all])) (al_cons (.inl (by simp [LA.all])) (al_cons (.inl (by simp [LA.all])) (al_cons (.inl (by simp [LA.all])) (al_cons (.inl (by simp [LA.all])) (al_cons (.inl (by simp [LA.all])) (al_cons (.inl (by simp [LA.all])) (al_cons (hjp.elim (fun h => .inl (by simp [LA.all, h])) .inr) al_nil)))))))))
          obtain ⟨a, cp, rfl, hcp, hc0⟩ := C5.head
          have C1' := C1.tail
          clear C5 C1
          have hch := hl c0 (by simp)
          have hl' : ∀ c ∈ l, U64 c := fun c hc => hl c (by simp [hc])
          have h1l : (1 : Int) ≤ (l.length : Int) + 1 := by omega
          go_wp2_with (fail)
          refine start_ (n := 7) (S := fun w' => w'.cell? a = some (.int .u64 c0)) (ds := []) #[false, false, false, false, false, false, false] (by kernel_rfl) rfl rfl (hc0) (fun hHeld => ?_)
          refine pure_ (i := 0) (N := some 35) (v := ?_) (a' := ?_) #[true, false, false, false, false, false, false] rfl rfl (by kernel_rfl) (fun _ _ _ h => h) (Or.inl ⟨by rfl, ?_⟩) ?_ ?_
          rotate_left
          · intro w'
            go_simp
            with_reducible rfl
          rotate_left
          · simp only [Act.put, List.setIfInBounds_toArray, List.set_cons_zero, List.set_cons_succ, i64_w, i32_w]
            rfl
          refine pure_ (i := 1) (N := some 36) (v := ?_) (a' := ?_) #[true, true, false, false, false, false, false] rfl rfl (by kernel_rfl) (fun _ _ _ h => h) (Or.inl ⟨by rfl, ?_⟩) ?_ ?_
          rotate_left
          · intro w'
            go_simp
            with_reducible rfl
          rotate_left
          · simp only [Act.put, List.setIfInBounds_toArray, List.set_cons_zero, List.set_cons_succ, i64_w, i32_w]
            rfl
          refine pure_ (i := 3) (N := some 38) (v := ?_) (a' := ?_) #[true, true, false, true, false, false, false] rfl rfl (by kernel_rfl) (fun _ _ _ h => h) (Or.inl ⟨by rfl, ?_⟩) ?_ ?_
          rotate_left
          · intro w'
            go_simp
            with_reducible rfl
          rotate_left
          · simp only [Act.put, List.setIfInBounds_toArray, List.set_cons_zero, List.set_cons_succ, i64_w, i32_w]
            rfl
          refine pure_ (i := 4) (N := some 39) (v := ?_) (a' := ?_) #[true, true, false, true, true, false, false] rfl rfl (by kernel_rfl) (fun _ _ _ h => h) (Or.inl ⟨by rfl, ?_⟩) ?_ ?_
          rotate_left
          · intro w'
            go_simp
            with_reducible rfl
          rotate_left
          · simp only [Act.put, List.setIfInBounds_toArray, List.set_cons_zero, List.set_cons_succ, i64_w, i32_w]
            rfl
          refine take_ (i := 2) (N := some 37) (v := ?_) (a' := ?_) #[true, true, true, true, true, false, false] rfl rfl (by kernel_rfl) (fun _ _ _ h => h) (Or.inl ⟨by rfl, ?_⟩) hHeld ?_ ?_
          rotate_left
          · intro w' s0
            go_simp
            with_reducible rfl
          rotate_left
          · simp only [Act.put, List.setIfInBounds_toArray, List.set_cons_zero, List.set_cons_succ, i64_w, i32_w]
            rfl
          refine pure_ (i := 5) (N := some 6) (v := ?_) (a' := ?_) #[true, true, true, true, true, true, false] rfl rfl (by kernel_rfl) (fun _ _ _ h => h) (Or.inl ⟨by rfl, ?_⟩) ?_ ?_
          rotate_left
          · intro w'
            go_simp
            with_reducible rfl
          rotate_left
          · simp only [Act.put, List.setIfInBounds_toArray, List.set_cons_zero, List.set_cons_succ, i64_w, i32_w]
            rfl
          refine pure_ (i := 6) (N := some 1) (v := ?_) (a' := ?_) #[true, true, true, true, true, true, true] rfl rfl (by kernel_rfl) (fun _ _ _ h => h) (Or.inl ⟨by rfl, ?_⟩) ?_ ?_
          rotate_left
          · intro w'
            go_simp
            with_reducible rfl
          rotate_left
          · simp only [Act.put, List.setIfInBounds_toArray, List.set_cons_zero, List.set_cons_succ, i64_w, i32_w]
            rfl
          refine done_ (by kernel_rfl) ?_
          generalize (if cp = 1 then some a else some (⟨a.block, a.off + 1, none⟩ : Addr)) = X at *
          refine exit_at (fun W => Blk W z.a 116 [.int .u64 sk.ra, .int .u64 sk.de, .int .u64 sk.ji, .int .u64 sk.bu, .int .u64 sk.now, .pointer (some ⟨z.b, 0, none⟩), .pointer (some ⟨z.q, 0, none⟩), .pointer (some ⟨z.j, 0, none⟩), .int .u64 sk.came, .int .u64 0, .int .u64 0, .int .u64 sk.served, .int .u64 0, .int .u64 sk.delivered] ∧ JbxAt W z.j z.jr jp sk.J ∧ Keeps [z.a, z.b, z.q, z.qr, z.qp, z.j, z.jr, z.jp, jp] w W ∧ Blk W b4 73 [.int .u64 p.n, .int .u64 p.size, .int .u64 p.sent, .int .u64 p.first, .int .u64 p.del, .int .u64 p.at_, .bool p.lim] ∧ BktAt W z.b (sk.B.take p.size) ∧ QueAt W z.q z.qr z.qp ⟨sk.Q.room, sk.Q.bytes - p.size, sk.Q.dropped, sk.Q.gone, ps⟩) (by
            refine ⟨?_, ?_, ?_, ?_, ?_, ?_⟩
            · exact (by (repeat (first | with_reducible exact B | with_reducible apply Blk.drew | with_reducible apply Blk.drewN | with_reducible refine Blk.newAt (by simp; done) | with_reducible apply Blk.alloc | with_reducible apply Blk.set2 | with_reducible apply Blk.far)); (all_goals (first | rfl | assumption | (exact Ne.symm (by assumption)) | (simp; done) | (simp; omega) | omega)))
            · exact (hj.keeps (bs := []) (by (repeat (first | with_reducible exact (Keeps.refl _ _) | with_reducible apply Keeps.drew | with_reducible apply Keeps.drewN | with_reducible apply Keeps.alloc | with_reducible apply Keeps.set_)); (all_goals (first | (left; simp; done) | (right; simp; done) | (right; simp; omega) | (right; omega)))) (List.not_mem_nil) (List.not_mem_nil) (List.not_mem_nil))
            · exact (by (repeat (first | with_reducible exact K | with_reducible apply Keeps.drew | with_reducible apply Keeps.drewN | with_reducible apply Keeps.alloc | with_reducible apply Keeps.set_)); (all_goals (first | (left; simp; done) | (right; assumption) | (right; simp; done) | (right; simp; omega) | (right; omega))))
            · exact (by (repeat (first | with_reducible exact T | with_reducible apply Blk.drew | with_reducible apply Blk.drewN | with_reducible refine Blk.newAt (by simp; done) | with_reducible apply Blk.alloc | with_reducible apply Blk.set2 | with_reducible apply Blk.far)); (all_goals (first | rfl | assumption | (exact Ne.symm (by assumption)) | (simp; done) | (simp; omega) | omega)))
            · exact (hb3.keeps (bs := []) (by (repeat (first | with_reducible exact (Keeps.refl _ _) | with_reducible apply Keeps.drew | with_reducible apply Keeps.drewN | with_reducible apply Keeps.alloc | with_reducible apply Keeps.set_)); (all_goals (first | (left; simp; done) | (right; simp; done) | (right; simp; omega) | (right; omega)))) (List.not_mem_nil))
            · exact (hq5.keeps (bs := []) (by (repeat (first | with_reducible exact (Keeps.refl _ _) | with_reducible apply Keeps.drew | with_reducible apply Keeps.drewN | with_reducible apply Keeps.alloc | with_reducible apply Keeps.set_)); (all_goals (first | (left; simp; done) | (right; simp; done) | (right; simp; omega) | (right; omega)))) (List.not_mem_nil) (List.not_mem_nil) (List.not_mem_nil))) ?_
          clear B hj K T hb3 hq5
          rintro W5 ⟨B, hj, K, T, hb3, hq5⟩
          go_wp2_with (fail)
          have hl_B := B.lt
          have f_B := fun i => B.frozen i
          have hl_T := T.lt
          have f_T := fun i => T.frozen i
          refine start_ (n := 14) (S := fun w' => Blk w' z.a 116 [.int .u64 sk.ra, .int .u64 sk.de, .int .u64 sk.ji, .int .u64 sk.bu, .int .u64 sk.now, .pointer (some ⟨z.b, 0, none⟩), .pointer (some ⟨z.q, 0, none⟩), .pointer (some ⟨z.j, 0, none⟩), .int .u64 sk.came, .int .u64 0, .int .u64 0, .int .u64 sk.served, .int .u64 0, .int .u64 sk.delivered] ∧ JbxAt w' z.j z.jr jp sk.J ∧ Keeps [z.a, z.b, z.q, z.qr, z.qp, z.j, z.jr, z.jp, jp] w w' ∧ Blk w' b4 73 [.int .u64 p.n, .int .u64 p.size, .int .u64 p.sent, .int .u64 p.first, .int .u64 p.del, .int .u64 p.at_, .bool p.lim] ∧ BktAt w' z.b (sk.B.take p.size) ∧ QueAt w' z.q z.qr z.qp ⟨sk.Q.room, sk.Q.bytes - p.size, sk.Q.dropped, sk.Q.gone, ps⟩ ∧ w'.cell? ⟨z.a, 11, none⟩ = some (.int .u64 sk.served) ∧ w'.cell? ⟨b4, 1, none⟩ = some (.int .u64 p.size)) (ds := [13]) #[false, false, false, false, false, false, false, false, false, false, false, false, false, false] (by kernel_rfl) rfl rfl ⟨(Blk.drew B), (hj.keeps ((Keeps.refl [] _).drew) (List.not_mem_nil) (List.not_mem_nil) (List.not_mem_nil)), (Keeps.drew K), (Blk.drew T), (hb3.keeps ((Keeps.refl [] _).drew) (List.not_mem_nil)), (hq5.keeps ((Keeps.refl [] _).drew) (List.not_mem_nil) (List.not_mem_nil) (List.not_mem_nil)), ((Blk.cell (Blk.drew B) 11).trans rfl), ((Blk.cell (Blk.drew T) 1).trans rfl)⟩ (fun hHeld => ?_)
          refine pure_ (i := 0) (N := some 40) (v := ?_) (a' := ?_) #[true, false, false, false, false, false, false, false, false, false, false, false, false, false] rfl rfl (by kernel_rfl) (fun _ _ _ h => h) (Or.inl ⟨by rfl, ?_⟩) ?_ ?_
          rotate_left
          · intro w'
            go_simp
            with_reducible rfl
          rotate_left
          · simp only [Act.put, List.setIfInBounds_toArray, List.set_cons_zero, List.set_cons_succ, i64_w, i32_w]
            rfl
          refine pure_ (i := 1) (N := some 41) (v := ?_) (a' := ?_) #[true, true, false, false, false, false, false, false, false, false, false, false, false, false] rfl rfl (by kernel_rfl) (fun _ _ _ h => h) (Or.inl ⟨by rfl, ?_⟩) ?_ ?_
          rotate_left
          · intro w'
            go_simp
            with_reducible rfl
          rotate_left
          · simp only [Act.put, List.setIfInBounds_toArray, List.set_cons_zero, List.set_cons_succ, i64_w, i32_w]
            rfl
          refine pure_ (i := 2) (N := some 42) (v := ?_) (a' := ?_) #[true, true, true, false, false, false, false, false, false, false, false, false, false, false] rfl rfl (by kernel_rfl) (fun _ _ _ h => h) (Or.inl ⟨by rfl, ?_⟩) ?_ ?_
          rotate_left
          · intro w'
            go_simp
            with_reducible rfl
          rotate_left
          · simp only [Act.put, List.setIfInBounds_toArray, List.set_cons_zero, List.set_cons_succ, i64_w, i32_w]
            rfl
          refine pure_ (i := 3) (N := some 43) (v := ?_) (a' := ?_) #[true, true, true, true, false, false, false, false, false, false, false, false, false, false] rfl rfl (by kernel_rfl) (fun _ _ _ h => h) (Or.inl ⟨by rfl, ?_⟩) ?_ ?_
          rotate_left
          · intro w'
            go_simp
            with_reducible rfl
          rotate_left
          · simp only [Act.put, List.setIfInBounds_toArray, List.set_cons_zero, List.set_cons_succ, i64_w, i32_w]
            rfl
          refine pure_ (i := 4) (N := some 44) (v := ?_) (a' := ?_) #[true, true, true, true, true, false, false, false, false, false, false, false, false, false] rfl rfl (by kernel_rfl) (fun _ _ _ h => h) (Or.inl ⟨by rfl, ?_⟩) ?_ ?_
          rotate_left
          · intro w'
            go_simp
            with_reducible rfl
          rotate_left
          · simp only [Act.put, List.setIfInBounds_toArray, List.set_cons_zero, List.set_cons_succ, i64_w, i32_w]
            rfl
          refine pure_ (i := 6) (N := some 46) (v := ?_) (a' := ?_) #[true, true, true, true, true, false, true, false, false, false, false, false, false, false] rfl rfl (by kernel_rfl) (fun _ _ _ h => h) (Or.inl ⟨by rfl, ?_⟩) ?_ ?_
          rotate_left
          · intro w'
            go_simp
            with_reducible rfl
          rotate_left
          · simp only [Act.put, List.setIfInBounds_toArray, List.set_cons_zero, List.set_cons_succ, i64_w, i32_w]
            rfl
          refine take_ (i := 5) (N := some 45) (v := ?_) (a' := ?_) #[true, true, true, true, true, true, true, false, false, false, false, false, false, false] rfl rfl (by kernel_rfl) (fun _ _ _ h => h) (Or.inl ⟨by rfl, ?_⟩) hHeld ?_ ?_
          rotate_left
          · rintro w' ⟨s0, s1, s2, s3, s4, s5, s6, s7⟩
            go_simp
            with_reducible rfl
          rotate_left
          · simp only [Act.put, List.setIfInBounds_toArray, List.set_cons_zero, List.set_cons_succ, i64_w, i32_w]
            rfl
          refine take_ (i := 7) (N := some 47) (v := ?_) (a' := ?_) #[true, true, true, true, true, true, true, true, false, false, false, false, false, false] rfl rfl (by kernel_rfl) (fun _ _ _ h => h) (Or.inl ⟨by rfl, ?_⟩) hHeld ?_ ?_
          rotate_left
          · rintro w' ⟨s0, s1, s2, s3, s4, s5, s6, s7⟩
            go_simp
            with_reducible rfl
          rotate_left
          · simp only [Act.put, List.setIfInBounds_toArray, List.set_cons_zero, List.set_cons_succ, i64_w, i32_w]
            rfl
          refine one_ (i := 8) (N := some 48) #[true, true, true, true, true, true, true, true, true, false, false, false, false, false] rfl rfl (by kernel_rfl) (by decide) (fun K hK => ?_)
          refine value_ (w1 := ?_) (v := ?_) (by rfl) rfl ?_ ?_
          rotate_left 2
          · go_simp
            constructor
            · rfl
            · rfl
          refine hK.out _ _ ⟨(Blk.alloc hHeld.1 _), (hHeld.2.1.keeps ((Keeps.refl [] _).alloc _) (List.not_mem_nil) (List.not_mem_nil) (List.not_mem_nil)), (Keeps.alloc hHeld.2.2.1 _), (Blk.alloc hHeld.2.2.2.1 _), (hHeld.2.2.2.2.1.keeps ((Keeps.refl [] _).alloc _) (List.not_mem_nil)), (hHeld.2.2.2.2.2.1.keeps ((Keeps.refl [] _).alloc _) (List.not_mem_nil) (List.not_mem_nil) (List.not_mem_nil)), ((Blk.cell (Blk.alloc hHeld.1 _) 11).trans rfl), ((Blk.cell (Blk.alloc hHeld.2.2.2.1 _) 1).trans rfl)⟩ ?_
          clear hK K hHeld
          intro hHeld
          refine norm_ (a' := ?_) ?_ ?_
          rotate_left
          · show Act.put _ (some 48) _ = _
            simp only [Act.put, List.setIfInBounds_toArray, List.set_cons_zero, List.set_cons_succ, i64_w, i32_w]
            rfl
          refine one_ (i := 9) (N := some 49) #[true, true, true, true, true, true, true, true, true, true, false, false, false, false] rfl rfl (by kernel_rfl) (by decide) (fun K hK => ?_)
          refine goes_ Try.func58 (by kernel_rfl) rfl #[.slice (some ⟨W5.heap.size, 0, none⟩) 2 2] (by rfl) rfl rfl (by simp only [List.map_toArray, List.map_cons, List.map_nil]; rfl) ?_
          with_reducible refine (add2 W5.heap.size sk.served p.size _ okk.served hp0 _ (Blk.drew (Blk.new W5 22 [.int .u64 sk.served, .int .u64 p.size]))).mono ?_
          rintro e w6 ⟨rfl, rfl⟩
          refine ⟨_, rfl, ?_⟩
          refine hK.out _ _ ⟨hHeld.1, hHeld.2.1, hHeld.2.2.1, hHeld.2.2.2.1, hHeld.2.2.2.2.1, hHeld.2.2.2.2.2.1, ((Blk.cell hHeld.1 11).trans rfl), ((Blk.cell hHeld.2.2.2.1 1).trans rfl)⟩ ?_
          clear hK K hHeld
          intro hHeld
          refine norm_ (a' := ?_) ?_ ?_
          rotate_left
          · show Act.put _ (some 49) _ = _
            simp only [Act.put, List.setIfInBounds_toArray, List.set_cons_zero, List.set_cons_succ, i64_w, i32_w]
            rfl
          refine pure_ (i := 10) (N := some 50) (v := ?_) (a' := ?_) #[true, true, true, true, true, true, true, true, true, true, true, false, false, false] rfl rfl (by kernel_rfl) (fun _ _ _ h => h) (Or.inl ⟨by rfl, ?_⟩) ?_ ?_
          rotate_left
          · intro w'
            go_simp
            with_reducible rfl
          rotate_left
          · simp only [Act.put, List.setIfInBounds_toArray, List.set_cons_zero, List.set_cons_succ, i64_w, i32_w]
            rfl
          refine pure_ (i := 11) (N := some 51) (v := ?_) (a' := ?_) #[true, true, true, true, true, true, true, true, true, true, true, true, false, false] rfl rfl (by kernel_rfl) (fun _ _ _ h => h) (Or.inl ⟨by rfl, ?_⟩) ?_ ?_
          rotate_left
          · intro w'
            go_simp
            with_reducible rfl
          rotate_left
          · simp only [Act.put, List.setIfInBounds_toArray, List.set_cons_zero, List.set_cons_succ, i64_w, i32_w]
            rfl
          refine pure_ (i := 12) (N := some 52) (v := ?_) (a' := ?_) #[true, true, true, true, true, true, true, true, true, true, true, true, true, false] rfl rfl (by kernel_rfl) (fun _ _ _ h => h) (Or.inl ⟨by rfl, ?_⟩) ?_ ?_
          rotate_left
          · intro w'
            go_simp
            with_reducible rfl
          rotate_left
          · simp only [Act.put, List.setIfInBounds_toArray, List.set_cons_zero, List.set_cons_succ, i64_w, i32_w]
            rfl
          refine last_ (i := 13) (N := none) #[true, true, true, true, true, true, true, true, true, true, true, true, true, true] rfl rfl (by kernel_rfl) (by decide) (fun K hK => ?_)
          refine skip_ (w1 := ?_) (by rfl) rfl ?_ ?_
          rotate_left
          · go_simp
            rfl
          refine hK.out _ _ ?_
          clear hK K
          refine done_ (by kernel_rfl) ?_
          clear hHeld f_B hl_B f_T hl_T
          refine exit_at (fun W => Blk W z.a 116 [.int .u64 sk.ra, .int .u64 sk.de, .int .u64 sk.ji, .int .u64 sk.bu, .int .u64 sk.now, .pointer (some ⟨z.b, 0, none⟩), .pointer (some ⟨z.q, 0, none⟩), .pointer (some ⟨z.j, 0, none⟩), .int .u64 sk.came, .int .u64 0, .int .u64 0, .int .u64 (sat (sk.served + p.size)), .int .u64 0, .int .u64 sk.delivered] ∧ JbxAt W z.j z.jr jp sk.J ∧ Keeps [z.a, z.b, z.q, z.qr, z.qp, z.j, z.jr, z.jp, jp] w W ∧ Blk W b4 73 [.int .u64 p.n, .int .u64 p.size, .int .u64 p.sent, .int .u64 p.first, .int .u64 p.del, .int .u64 p.at_, .bool p.lim] ∧ BktAt W z.b (sk.B.take p.size) ∧ QueAt W z.q z.qr z.qp ⟨sk.Q.room, sk.Q.bytes - p.size, sk.Q.dropped, sk.Q.gone, ps⟩) (by
            refine ⟨?_, ?_, ?_, ?_, ?_, ?_⟩
            · exact (by (repeat (first | with_reducible exact B | with_reducible apply Blk.drew | with_reducible apply Blk.drewN | with_reducible refine Blk.newAt (by simp; done) | with_reducible apply Blk.alloc | with_reducible apply Blk.set2 | with_reducible apply Blk.far)); (all_goals (first | rfl | assumption | (exact Ne.symm (by assumption)) | (simp; done) | (simp; omega) | omega)))
            · exact (hj.keeps (bs := [z.a]) (by (repeat (first | with_reducible exact (Keeps.refl _ _) | with_reducible apply Keeps.drew | with_reducible apply Keeps.drewN | with_reducible apply Keeps.alloc | with_reducible apply Keeps.set_)); (all_goals (first | (left; simp; done) | (right; simp; done) | (right; simp; omega) | (right; omega)))) ((nm_cons (Ne.symm (ap.n05)) List.not_mem_nil)) ((nm_cons (Ne.symm (ap.n06)) List.not_mem_nil)) ((nm_cons (Ne.symm (ap.n07)) List.not_mem_nil)))
            · exact (by (repeat (first | with_reducible exact K | with_reducible apply Keeps.drew | with_reducible apply Keeps.drewN | with_reducible apply Keeps.alloc | with_reducible apply Keeps.set_)); (all_goals (first | (left; simp; done) | (right; assumption) | (right; simp; done) | (right; simp; omega) | (right; omega))))
            · exact (by (repeat (first | with_reducible exact T | with_reducible apply Blk.drew | with_reducible apply Blk.drewN | with_reducible refine Blk.newAt (by simp; done) | with_reducible apply Blk.alloc | with_reducible apply Blk.set2 | with_reducible apply Blk.far)); (all_goals (first | rfl | assumption | (exact Ne.symm (by assumption)) | (simp; done) | (simp; omega) | omega)))
            · exact (hb3.keeps (bs := [z.a]) (by (repeat (first | with_reducible exact (Keeps.refl _ _) | with_reducible apply Keeps.drew | with_reducible apply Keeps.drewN | with_reducible apply Keeps.alloc | with_reducible apply Keeps.set_)); (all_goals (first | (left; simp; done) | (right; simp; done) | (right; simp; omega) | (right; omega)))) ((nm_cons (Ne.symm (ap.n01)) List.not_mem_nil)))
            · exact (hq5.keeps (bs := [z.a]) (by (repeat (first | with_reducible exact (Keeps.refl _ _) | with_reducible apply Keeps.drew | with_reducible apply Keeps.drewN | with_reducible apply Keeps.alloc | with_reducible apply Keeps.set_)); (all_goals (first | (left; simp; done) | (right; simp; done) | (right; simp; omega) | (right; omega)))) ((nm_cons (Ne.symm (ap.n02)) List.not_mem_nil)) ((nm_cons (Ne.symm (ap.n03)) List.not_mem_nil)) ((nm_cons (Ne.symm (ap.n04)) List.not_mem_nil)))) ?_
          clear B hj K T hb3 hq5
          rintro W6 ⟨B, hj, K, T, hb3, hq5⟩
          go_wp2_with (fail)
          have hput := jbx_put z.j z.jr jp sk.J p sk.now c0 W6.drew hj.drew okk.now okk.delay okk.jit hch (by have := okk.len; omega)
          simp only [Pkt.val] at hput
          have hW6 : w.heap.size ≤ W6.heap.size := K.size
          refine start_ (n := 11) (S := fun w' => Blk w' z.a 116 [.int .u64 sk.ra, .int .u64 sk.de, .int .u64 sk.ji, .int .u64 sk.bu, .int .u64 sk.now, .pointer (some ⟨z.b, 0, none⟩), .pointer (some ⟨z.q, 0, none⟩), .pointer (some ⟨z.j, 0, none⟩), .int .u64 sk.came, .int .u64 0, .int .u64 0, .int .u64 (sat (sk.served + p.size)), .int .u64 0, .int .u64 sk.delivered] ∧ JbxAt w' z.j z.jr jp sk.J ∧ Keeps [z.a, z.b, z.q, z.qr, z.qp, z.j, z.jr, z.jp, jp] w w' ∧ Blk w' b4 73 [.int .u64 p.n, .int .u64 p.size, .int .u64 p.sent, .int .u64 p.first, .int .u64 p.del, .int .u64 p.at_, .bool p.lim] ∧ BktAt w' z.b (sk.B.take p.size) ∧ QueAt w' z.q z.qr z.qp ⟨sk.Q.room, sk.Q.bytes - p.size, sk.Q.dropped, sk.Q.gone, ps⟩ ∧ w'.cell? ⟨z.a, 4, none⟩ = some (.int .u64 sk.now) ∧ w'.cell? ⟨z.a, 7, none⟩ = some (.pointer (some ⟨z.j, 0, none⟩)) ∧ w'.cell? ⟨b4, 0, none⟩ = some (.int .u64 p.n) ∧ w'.cell? ⟨b4, 1, none⟩ = some (.int .u64 p.size) ∧ w'.cell? ⟨b4, 2, none⟩ = some (.int .u64 p.sent) ∧ w'.cell? ⟨b4, 3, none⟩ = some (.int .u64 p.first) ∧ w'.cell? ⟨b4, 4, none⟩ = some (.int .u64 p.del) ∧ w'.cell? ⟨b4, 5, none⟩ = some (.int .u64 p.at_) ∧ w'.cell? ⟨b4, 6, none⟩ = some (.bool p.lim)) (ds := [10]) #[false, false, false, false, false, false, false, false, false, false, false] (by kernel_rfl) rfl rfl ⟨(Blk.drew B), (hj.keeps ((Keeps.refl [] _).drew) (List.not_mem_nil) (List.not_mem_nil) (List.not_mem_nil)), (Keeps.drew K), (Blk.drew T), (hb3.keeps ((Keeps.refl [] _).drew) (List.not_mem_nil)), (hq5.keeps ((Keeps.refl [] _).drew) (List.not_mem_nil) (List.not_mem_nil) (List.not_mem_nil)), ((Blk.cell (Blk.drew B) 4).trans rfl), ((Blk.cell (Blk.drew B) 7).trans rfl), ((Blk.cell (Blk.drew T) 0).trans rfl), ((Blk.cell (Blk.drew T) 1).trans rfl), ((Blk.cell (Blk.drew T) 2).trans rfl), ((Blk.cell (Blk.drew T) 3).trans rfl), ((Blk.cell (Blk.drew T) 4).trans rfl), ((Blk.cell (Blk.drew T) 5).trans rfl), ((Blk.cell (Blk.drew T) 6).trans rfl)⟩ (fun hHeld => ?_)
          refine pure_ (i := 0) (N := some 53) (v := ?_) (a' := ?_) #[true, false, false, false, false, false, false, false, false, false, false] rfl rfl (by kernel_rfl) (fun _ _ _ h => h) (Or.inl ⟨by rfl, ?_⟩) ?_ ?_
          rotate_left
          · intro w'
            go_simp
            with_reducible rfl
          rotate_left
          · simp only [Act.put, List.setIfInBounds_toArray, List.set_cons_zero, List.set_cons_succ, i64_w, i32_w]
            rfl
          refine pure_ (i := 1) (N := some 54) (v := ?_) (a' := ?_) #[true, true, false, false, false, false, false, false, false, false, false] rfl rfl (by kernel_rfl) (fun _ _ _ h => h) (Or.inl ⟨by rfl, ?_⟩) ?_ ?_
          rotate_left
          · intro w'
            go_simp
            with_reducible rfl
          rotate_left
          · simp only [Act.put, List.setIfInBounds_toArray, List.set_cons_zero, List.set_cons_succ, i64_w, i32_w]
            rfl
          refine pure_ (i := 2) (N := some 55) (v := ?_) (a' := ?_) #[true, true, true, false, false, false, false, false, false, false, false] rfl rfl (by kernel_rfl) (fun _ _ _ h => h) (Or.inl ⟨by rfl, ?_⟩) ?_ ?_
          rotate_left
          · intro w'
            go_simp
            with_reducible rfl
          rotate_left
          · simp only [Act.put, List.setIfInBounds_toArray, List.set_cons_zero, List.set_cons_succ, i64_w, i32_w]
            rfl
          refine pure_ (i := 5) (N := some 58) (v := ?_) (a' := ?_) #[true, true, true, false, false, true, false, false, false, false, false] rfl rfl (by kernel_rfl) (fun _ _ _ h => h) (Or.inl ⟨by rfl, ?_⟩) ?_ ?_
          rotate_left
          · intro w'
            go_simp
            with_reducible rfl
          rotate_left
          · simp only [Act.put, List.setIfInBounds_toArray, List.set_cons_zero, List.set_cons_succ, i64_w, i32_w]
            rfl
          refine pure_ (i := 6) (N := some 59) (v := ?_) (a' := ?_) #[true, true, true, false, false, true, true, false, false, false, false] rfl rfl (by kernel_rfl) (fun _ _ _ h => h) (Or.inl ⟨by rfl, ?_⟩) ?_ ?_
          rotate_left
          · intro w'
            go_simp
            with_reducible rfl
          rotate_left
          · simp only [Act.put, List.setIfInBounds_toArray, List.set_cons_zero, List.set_cons_succ, i64_w, i32_w]
            rfl
          refine pure_ (i := 7) (N := some 60) (v := ?_) (a' := ?_) #[true, true, true, false, false, true, true, true, false, false, false] rfl rfl (by kernel_rfl) (fun _ _ _ h => h) (Or.inl ⟨by rfl, ?_⟩) ?_ ?_
          rotate_left
          · intro w'
            go_simp
            with_reducible rfl
          rotate_left
          · simp only [Act.put, List.setIfInBounds_toArray, List.set_cons_zero, List.set_cons_succ, i64_w, i32_w]
            rfl
          refine pure_ (i := 9) (N := some 62) (v := ?_) (a' := ?_) #[true, true, true, false, false, true, true, true, false, true, false] rfl rfl (by kernel_rfl) (fun _ _ _ h => h) (Or.inl ⟨by rfl, ?_⟩) ?_ ?_
          rotate_left
          · intro w'
            go_simp
            with_reducible rfl
          rotate_left
          · simp only [Act.put, List.setIfInBounds_toArray, List.set_cons_zero, List.set_cons_succ, i64_w, i32_w]
            rfl
          refine take_ (i := 3) (N := some 56) (v := ?_) (a' := ?_) #[true, true, true, true, false, true, true, true, false, true, false] rfl rfl (by kernel_rfl) (fun _ _ _ h => h) (Or.inl ⟨by rfl, ?_⟩) hHeld ?_ ?_
          rotate_left
          · rintro w' ⟨s0, s1, s2, s3, s4, s5, s6, s7, s8, s9, s10, s11, s12, s13, s14⟩
            go_simp
            with_reducible rfl
          rotate_left
          · simp only [Act.put, List.setIfInBounds_toArray, List.set_cons_zero, List.set_cons_succ, i64_w, i32_w]
            rfl
          refine take_ (i := 4) (N := some 57) (v := ?_) (a' := ?_) #[true, true, true, true, true, true, true, true, false, true, false] rfl rfl (by kernel_rfl) (fun _ _ _ h => h) (Or.inl ⟨by rfl, ?_⟩) hHeld ?_ ?_
          rotate_left
          · rintro w' ⟨s0, s1, s2, s3, s4, s5, s6, s7, s8, s9, s10, s11, s12, s13, s14⟩
            go_simp
            with_reducible rfl
          rotate_left
          · simp only [Act.put, List.setIfInBounds_toArray, List.set_cons_zero, List.set_cons_succ, i64_w, i32_w]
            rfl
          refine take_ (i := 8) (N := some 61) (v := ?_) (a' := ?_) #[true, true, true, true, true, true, true, true, true, true, false] rfl rfl (by kernel_rfl) (fun _ _ _ h => h) (Or.inl ⟨by rfl, ?_⟩) hHeld ?_ ?_
          rotate_left
          · rintro w' ⟨s0, s1, s2, s3, s4, s5, s6, s7, s8, s9, s10, s11, s12, s13, s14⟩
            go_simp
            with_reducible rfl
          rotate_left
          · simp only [Act.put, List.setIfInBounds_toArray, List.set_cons_zero, List.set_cons_succ, i64_w, i32_w]
            rfl
          refine last_ (i := 10) (N := some 63) #[true, true, true, true, true, true, true, true, true, true, true] rfl rfl (by kernel_rfl) (by decide) (fun K hK => ?_)
          refine goes_ Try.func99 (by kernel_rfl) rfl #[.pointer (some ⟨z.j, 0, none⟩), .agg #[.int .u64 p.n, .int .u64 p.size, .int .u64 p.sent, .int .u64 p.first, .int .u64 p.del, .int .u64 p.at_, .bool p.lim], .int .u64 sk.now, .int .u64 c0] (by rfl) rfl rfl (by simp only [List.map_toArray, List.map_cons, List.map_nil]; rfl) ?_
          with_reducible refine (hput).mono ?_
          rintro e w7 ⟨rfl, ⟨jp7, hj7, hjp7⟩, k7⟩
          refine ⟨_, rfl, ?_⟩
          have hBase := And.intro (Blk.keeps hHeld.1 k7 ((nm_cons (ap.n05) (nm_cons (ap.n06) (nm_cons (ap.n07) List.not_mem_nil))))) (And.intro (Keeps.trans hHeld.2.2.1 k7 (al_cons (.inl (by simp)) (al_cons (.inl (by simp)) (al_cons (.inl (by simp)) al_nil)))) (And.intro (Blk.keeps hHeld.2.2.2.1 k7 ((nm_cons (Ne.symm (ne_z_j_b4)) (nm_cons (Ne.symm (ne_z_jr_b4)) (nm_cons (Ne.symm (ne_jp_b4)) List.not_mem_nil))))) (And.intro (hHeld.2.2.2.2.1.keeps k7 ((nm_cons (ap.n15) (nm_cons (ap.n16) (nm_cons (ap.n17) List.not_mem_nil))))) ((hHeld.2.2.2.2.2.1.keeps k7 ((nm_cons (ap.n25) (nm_cons (ap.n26) (nm_cons (ap.n27) List.not_mem_nil)))) ((nm_cons (ap.n35) (nm_cons (ap.n36) (nm_cons (ap.n37) List.not_mem_nil)))) ((nm_cons (ap.n45) (nm_cons (ap.n46) (nm_cons (ap.n47) List.not_mem_nil)))))))))
          refine hK.out _ _ ?_
          clear hK K
          refine norm_ (a' := ?_) ?_ ?_
          rotate_left
          · show Act.put _ (some 63) _ = _
            simp only [Act.put, List.setIfInBounds_toArray, List.set_cons_zero, List.set_cons_succ, i64_w, i32_w]
            rfl
          refine done_ (by kernel_rfl) ?_
          clear hHeld B hj K T hb3 hq5
          obtain ⟨B, K, T, hb3, hq5⟩ := hBase
          clear hput k7
          have hqf : QueAt w7 z.q z.qr z.qp (sk.serve1 p c0).Q := by
            show QueAt _ _ _ _ ⟨_, _, _, _, sk.Q.xs.tail⟩
            rw [hx]; exact hq5
          have hl7 : ringLen w7 z.qr = ps.length := by have h' := ringLen_eq hq5.row; simp only [List.length_map] at h'; exact h'
          have hfin : LnkAt w7 (z.withJ jp7) (sk.serve1 p c0) := ⟨B, hb3, hqf, hj7⟩
          have hjp' : jp7 = z.jp ∨ w.heap.size ≤ jp7 := by
            rcases hjp7 with h' | h'
            · rw [h']; exact hjp
            · right; exact Nat.le_trans hW6 (by simpa using h')
          have ok7 := okk.serve1 hx hch htk
          have heq7 : Hid ((sk.serve1 p c0).serve (sk.serve1 p c0).Q.xs l = s.serve s.Q.xs cs) := by
            show _ = _
            rw [← heq.out, hx, Lnk.serve, if_pos htk]
            show (sk.serve1 p c0).serve sk.Q.xs.tail l = _
            rw [hx]; rfl
          have K7 : Keeps z.all w w7 := K.mono (al_cons (.inl (by simp [LA.all])) (al_cons (.inl (by simp [LA.all])) (al_cons (.inl (by simp [LA.all])) (al_cons (.inl (by simp [LA.all])) (al_cons (.inl (by simp [LA.all])) (al_cons (.inl (by simp [LA.all])) (al_cons (.inl (by simp [LA.all])) (al_cons (.inl (by simp [LA.all])) (al_cons (hjp.elim (fun h => .inl (by simp [LA.all, h])) .inr) al_nil)))))))))
          clear B hb3 hq5 hqf hj7 T K heq
          go_wp2_with (fail)
          go_roundw
          case rel => exact ⟨l, sk.serve1 p c0, jp7, C1', hfin, ok7, hl', heq7.out, hjp', K7⟩
          case measure => rw [hl7, hlr, hx]; simp
      · rw [if_neg htk, decide_eq_false htk] at btk
        refine start_ (n := 12) (S := fun w' => Blk w' z.a 116 [.int .u64 sk.ra, .int .u64 sk.de, .int .u64 sk.ji, .int .u64 sk.bu, .int .u64 sk.now, .pointer (some ⟨z.b, 0, none⟩), .pointer (some ⟨z.q, 0, none⟩), .pointer (some ⟨z.j, 0, none⟩), .int .u64 sk.came, .int .u64 0, .int .u64 0, .int .u64 sk.served, .int .u64 0, .int .u64 sk.delivered] ∧ BktAt w' z.b sk.B ∧ QueAt w' z.q z.qr z.qp sk.Q ∧ JbxAt w' z.j z.jr jp sk.J ∧ Keeps [z.a, z.b, z.q, z.qr, z.qp, z.j, z.jr, z.jp, jp] w w' ∧ Blk w' b4 73 [.int .u64 p.n, .int .u64 p.size, .int .u64 p.sent, .int .u64 p.first, .int .u64 p.del, .int .u64 p.at_, .bool p.lim] ∧ w'.cell? ⟨z.a, 5, none⟩ = some (.pointer (some ⟨z.b, 0, none⟩)) ∧ w'.cell? ⟨b4, 1, none⟩ = some (.int .u64 p.size)) (ds := [9]) #[false, false, false, false, false, false, false, false, false, false, false, false] (by kernel_rfl) rfl rfl ⟨(Blk.drew B), (hb.keeps ((Keeps.refl [] _).drew) (List.not_mem_nil)), (hq.keeps ((Keeps.refl [] _).drew) (List.not_mem_nil) (List.not_mem_nil) (List.not_mem_nil)), (hj.keeps ((Keeps.refl [] _).drew) (List.not_mem_nil) (List.not_mem_nil) (List.not_mem_nil)), (Keeps.drew K), (Blk.drew T), ((Blk.cell (Blk.drew B) 5).trans rfl), ((Blk.cell (Blk.drew T) 1).trans rfl)⟩ (fun hHeld => ?_)
        refine pure_ (i := 0) (N := some 15) (v := ?_) (a' := ?_) #[true, false, false, false, false, false, false, false, false, false, false, false] rfl rfl (by kernel_rfl) (fun _ _ _ h => h) (Or.inl ⟨by rfl, ?_⟩) ?_ ?_
        rotate_left
        · intro w'
          go_simp
          with_reducible rfl
        rotate_left
        · simp only [Act.put, List.setIfInBounds_toArray, List.set_cons_zero, List.set_cons_succ, i64_w, i32_w]
          rfl
        refine pure_ (i := 1) (N := some 16) (v := ?_) (a' := ?_) #[true, true, false, false, false, false, false, false, false, false, false, false] rfl rfl (by kernel_rfl) (fun _ _ _ h => h) (Or.inl ⟨by rfl, ?_⟩) ?_ ?_
        rotate_left
        · intro w'
          go_simp
          with_reducible rfl
        rotate_left
        · simp only [Act.put, List.setIfInBounds_toArray, List.set_cons_zero, List.set_cons_succ, i64_w, i32_w]
          rfl
        refine pure_ (i := 2) (N := some 17) (v := ?_) (a' := ?_) #[true, true, true, false, false, false, false, false, false, false, false, false] rfl rfl (by kernel_rfl) (fun _ _ _ h => h) (Or.inl ⟨by rfl, ?_⟩) ?_ ?_
        rotate_left
        · intro w'
          go_simp
          with_reducible rfl
        rotate_left
        · simp only [Act.put, List.setIfInBounds_toArray, List.set_cons_zero, List.set_cons_succ, i64_w, i32_w]
          rfl
        refine pure_ (i := 3) (N := some 18) (v := ?_) (a' := ?_) #[true, true, true, true, false, false, false, false, false, false, false, false] rfl rfl (by kernel_rfl) (fun _ _ _ h => h) (Or.inl ⟨by rfl, ?_⟩) ?_ ?_
        rotate_left
        · intro w'
          go_simp
          with_reducible rfl
        rotate_left
        · simp only [Act.put, List.setIfInBounds_toArray, List.set_cons_zero, List.set_cons_succ, i64_w, i32_w]
          rfl
        refine pure_ (i := 4) (N := some 19) (v := ?_) (a' := ?_) #[true, true, true, true, true, false, false, false, false, false, false, false] rfl rfl (by kernel_rfl) (fun _ _ _ h => h) (Or.inl ⟨by rfl, ?_⟩) ?_ ?_
        rotate_left
        · intro w'
          go_simp
          with_reducible rfl
        rotate_left
        · simp only [Act.put, List.setIfInBounds_toArray, List.set_cons_zero, List.set_cons_succ, i64_w, i32_w]
          rfl
        refine pure_ (i := 5) (N := some 20) (v := ?_) (a' := ?_) #[true, true, true, true, true, true, false, false, false, false, false, false] rfl rfl (by kernel_rfl) (fun _ _ _ h => h) (Or.inl ⟨by rfl, ?_⟩) ?_ ?_
        rotate_left
        · intro w'
          go_simp
          with_reducible rfl
        rotate_left
        · simp only [Act.put, List.setIfInBounds_toArray, List.set_cons_zero, List.set_cons_succ, i64_w, i32_w]
          rfl
        refine pure_ (i := 7) (N := some 22) (v := ?_) (a' := ?_) #[true, true, true, true, true, true, false, true, false, false, false, false] rfl rfl (by kernel_rfl) (fun _ _ _ h => h) (Or.inl ⟨by rfl, ?_⟩) ?_ ?_
        rotate_left
        · intro w'
          go_simp
          with_reducible rfl
        rotate_left
        · simp only [Act.put, List.setIfInBounds_toArray, List.set_cons_zero, List.set_cons_succ, i64_w, i32_w]
          rfl
        refine take_ (i := 6) (N := some 21) (v := ?_) (a' := ?_) #[true, true, true, true, true, true, true, true, false, false, false, false] rfl rfl (by kernel_rfl) (fun _ _ _ h => h) (Or.inl ⟨by rfl, ?_⟩) hHeld ?_ ?_
        rotate_left
        · rintro w' ⟨s0, s1, s2, s3, s4, s5, s6, s7⟩
          go_simp
          with_reducible rfl
        rotate_left
        · simp only [Act.put, List.setIfInBounds_toArray, List.set_cons_zero, List.set_cons_succ, i64_w, i32_w]
          rfl
        refine take_ (i := 8) (N := some 23) (v := ?_) (a' := ?_) #[true, true, true, true, true, true, true, true, true, false, false, false] rfl rfl (by kernel_rfl) (fun _ _ _ h => h) (Or.inl ⟨by rfl, ?_⟩) hHeld ?_ ?_
        rotate_left
        · rintro w' ⟨s0, s1, s2, s3, s4, s5, s6, s7⟩
          go_simp
          with_reducible rfl
        rotate_left
        · simp only [Act.put, List.setIfInBounds_toArray, List.set_cons_zero, List.set_cons_succ, i64_w, i32_w]
          rfl
        refine last_ (i := 9) (N := some 24) #[true, true, true, true, true, true, true, true, true, true, false, false] rfl rfl (by kernel_rfl) (by decide) (fun K hK => ?_)
        refine goes_ Try.func97 (by kernel_rfl) rfl #[.pointer (some ⟨z.b, 0, none⟩), .int .u64 p.size] (by rfl) rfl rfl (by simp only [List.map_toArray, List.map_cons, List.map_nil]; rfl) ?_
        with_reducible refine (btk).mono ?_
        rintro e w3 ⟨rfl, hb3, k3⟩
        refine ⟨_, rfl, ?_⟩
        have hBase := And.intro (Blk.keeps hHeld.1 k3 ((nm_cons (ap.n01) List.not_mem_nil))) (And.intro (hHeld.2.2.1.keeps k3 ((nm_cons (Ne.symm (ap.n12)) List.not_mem_nil)) ((nm_cons (Ne.symm (ap.n13)) List.not_mem_nil)) ((nm_cons (Ne.symm (ap.n14)) List.not_mem_nil))) (And.intro (hHeld.2.2.2.1.keeps k3 ((nm_cons (Ne.symm (ap.n15)) List.not_mem_nil)) ((nm_cons (Ne.symm (ap.n16)) List.not_mem_nil)) ((nm_cons (Ne.symm (ap.n17)) List.not_mem_nil))) (And.intro (Keeps.trans hHeld.2.2.2.2.1 k3 (al_cons (.inl (by simp)) al_nil)) ((Blk.keeps hHeld.2.2.2.2.2.1 k3 ((nm_cons (Ne.symm (ne_z_b_b4)) List.not_mem_nil)))))))
        refine hK.out _ _ ?_
        clear hK K
        refine norm_ (a' := ?_) ?_ ?_
        rotate_left
        · show Act.put _ (some 24) _ = _
          simp only [Act.put, List.setIfInBounds_toArray, List.set_cons_zero, List.set_cons_succ, i64_w, i32_w]
          rfl
        refine pure_ (i := 10) (N := some 25) (v := ?_) (a' := ?_) #[true, true, true, true, true, true, true, true, true, true, true, false] rfl rfl (by kernel_rfl) (fun _ _ _ h => h) (Or.inl ⟨by rfl, ?_⟩) ?_ ?_
        rotate_left
        · intro w'
          go_simp
          with_reducible rfl
        rotate_left
        · simp only [Act.put, List.setIfInBounds_toArray, List.set_cons_zero, List.set_cons_succ, i64_w, i32_w]
          rfl
        refine pure_ (i := 11) (N := some 26) (v := ?_) (a' := ?_) #[true, true, true, true, true, true, true, true, true, true, true, true] rfl rfl (by kernel_rfl) (fun _ _ _ h => h) (Or.inl ⟨by rfl, ?_⟩) ?_ ?_
        rotate_left
        · intro w'
          go_simp
          with_reducible rfl
        rotate_left
        · simp only [Act.put, List.setIfInBounds_toArray, List.set_cons_zero, List.set_cons_succ, i64_w, i32_w]
          rfl
        refine done_ (by kernel_rfl) ?_
        clear hHeld B hb hq hj K T
        obtain ⟨B, hq, hj, K, T⟩ := hBase
        refine exit_at (fun W => Blk W z.a 116 [.int .u64 sk.ra, .int .u64 sk.de, .int .u64 sk.ji, .int .u64 sk.bu, .int .u64 sk.now, .pointer (some ⟨z.b, 0, none⟩), .pointer (some ⟨z.q, 0, none⟩), .pointer (some ⟨z.j, 0, none⟩), .int .u64 sk.came, .int .u64 0, .int .u64 0, .int .u64 sk.served, .int .u64 0, .int .u64 sk.delivered] ∧ QueAt W z.q z.qr z.qp sk.Q ∧ JbxAt W z.j z.jr jp sk.J ∧ Keeps [z.a, z.b, z.q, z.qr, z.qp, z.j, z.jr, z.jp, jp] w W ∧ Blk W b4 73 [.int .u64 p.n, .int .u64 p.size, .int .u64 p.sent, .int .u64 p.first, .int .u64 p.del, .int .u64 p.at_, .bool p.lim] ∧ BktAt W z.b sk.B) (by
          refine ⟨?_, ?_, ?_, ?_, ?_, ?_⟩
          · exact (by (repeat (first | with_reducible exact B | with_reducible apply Blk.drew | with_reducible apply Blk.drewN | with_reducible refine Blk.newAt (by simp; done) | with_reducible apply Blk.alloc | with_reducible apply Blk.set2 | with_reducible apply Blk.far)); (all_goals (first | rfl | assumption | (exact Ne.symm (by assumption)) | (simp; done) | (simp; omega) | omega)))
          · exact (hq.keeps (bs := []) (by (repeat (first | with_reducible exact (Keeps.refl _ _) | with_reducible apply Keeps.drew | with_reducible apply Keeps.drewN | with_reducible apply Keeps.alloc | with_reducible apply Keeps.set_)); (all_goals (first | (left; simp; done) | (right; simp; done) | (right; simp; omega) | (right; omega)))) (List.not_mem_nil) (List.not_mem_nil) (List.not_mem_nil))
          · exact (hj.keeps (bs := []) (by (repeat (first | with_reducible exact (Keeps.refl _ _) | with_reducible apply Keeps.drew | with_reducible apply Keeps.drewN | with_reducible apply Keeps.alloc | with_reducible apply Keeps.set_)); (all_goals (first | (left; simp; done) | (right; simp; done) | (right; simp; omega) | (right; omega)))) (List.not_mem_nil) (List.not_mem_nil) (List.not_mem_nil))
          · exact (by (repeat (first | with_reducible exact K | with_reducible apply Keeps.drew | with_reducible apply Keeps.drewN | with_reducible apply Keeps.alloc | with_reducible apply Keeps.set_)); (all_goals (first | (left; simp; done) | (right; assumption) | (right; simp; done) | (right; simp; omega) | (right; omega))))
          · exact (by (repeat (first | with_reducible exact T | with_reducible apply Blk.drew | with_reducible apply Blk.drewN | with_reducible refine Blk.newAt (by simp; done) | with_reducible apply Blk.alloc | with_reducible apply Blk.set2 | with_reducible apply Blk.far)); (all_goals (first | rfl | assumption | (exact Ne.symm (by assumption)) | (simp; done) | (simp; omega) | omega)))
          · exact (hb3.keeps (bs := []) (by (repeat (first | with_reducible exact (Keeps.refl _ _) | with_reducible apply Keeps.drew | with_reducible apply Keeps.drewN | with_reducible apply Keeps.alloc | with_reducible apply Keeps.set_)); (all_goals (first | (left; simp; done) | (right; simp; done) | (right; simp; omega) | (right; omega)))) (List.not_mem_nil))) ?_
        clear B hq hj K T hb3
        rintro W3 ⟨B, hq, hj, K, T, hb3⟩
        go_wp2_with (fail)
        refine bodyPost_ret (results_none rfl _ _ _) rfl ?_
        have e1 : sk.serve (p :: ps) l = sk := by rw [Lnk.serve, if_neg (by omega)]
        have e2 := heq.out
        rw [hx, e1] at e2
        rw [← e2]
        exact ⟨rfl, ⟨jp, ⟨B, hb3, hq, hj⟩, hjp⟩, K.mono (al_cons (.inl (by simp [LA.all])) (al_cons (.inl (by simp [LA.all])) (al_cons (.inl (by simp [LA.all])) (al_cons (.inl (by simp [LA.all])) (al_cons (.inl (by simp [LA.all])) (al_cons (.inl (by simp [LA.all])) (al_cons (.inl (by simp [LA.all])) (al_cons (.inl (by simp [LA.all])) (al_cons (hjp.elim (fun h => .inl (by simp [LA.all, h])) .inr) al_nil)))))))))⟩
end Go.Proofs.Ytjnojomfaikfjaa
