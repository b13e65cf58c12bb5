/- link.Link: Send. -/
import Derived.Test.YtjnojomfaikfjaaLinkB
namespace Go.Proofs.Ytjnojomfaikfjaa
set_option linter.unusedSimpArgs false
set_option linter.unusedVariables false
open Go.RowKit Go.Proofs.YtjnojomfaikfjaaW.PrintLast
/-- where its queue's packets lie, then -/
def LA.withQ (z : LA) (qp : Nat) : LA := ⟨z.a, z.b, z.q, z.qr, qp, z.j, z.jr, z.jp⟩
def LA.withJ (z : LA) (jp : Nat) : LA := ⟨z.a, z.b, z.q, z.qr, z.qp, z.j, z.jr, jp⟩
theorem QueAt.lt {w : World} {q r pb : Nat} {s : Que} (h : QueAt w q r pb s) : q < w.heap.size ∧ r < w.heap.size ∧ pb < w.heap.size := ⟨h.blk.lt, h.row.lt⟩
theorem JbxAt.lt {w : World} {q r pb : Nat} {s : Jbx} (h : JbxAt w q r pb s) : q < w.heap.size ∧ r < w.heap.size ∧ pb < w.heap.size := ⟨h.blk.lt, h.row.lt⟩
theorem post_at {Q : Exit → Act → World → Prop} {a : Act} {w : World} (F : World → Prop) (h : F w) (k : ∀ w', F w' → Q .normal a w') : Q .normal a w := k w h
theorem Keeps.back (w : World) : Keeps [] w.drew w := ⟨rfl, rfl, rfl, Nat.le_refl _, fun _ _ _ => rfl⟩
theorem QueAt.drew {w : World} {q r pb : Nat} {s : Que} (h : QueAt w q r pb s) : QueAt w.drew q r pb s := h.keeps ((Keeps.refl [] w).drew) (by simp) (by simp) (by simp)
theorem JbxAt.drew {w : World} {q r pb : Nat} {s : Jbx} (h : JbxAt w q r pb s) : JbxAt w.drew q r pb s := h.keeps ((Keeps.refl [] w).drew) (by simp) (by simp) (by simp)
theorem BktAt.drew {w : World} {b : Nat} {s : Bkt} (h : BktAt w b s) : BktAt w.drew b s := h.keeps ((Keeps.refl [] w).drew) (by simp)
set_option maxHeartbeats 8000000 in
set_option maxRecDepth 100000 in
theorem lnk_send (z : LA) (s : Lnk) (l : List Pkt) (v : Value) (n : Nat) (w : World) (h : LnkAt w z s) (ok : s.Ok n) (R : Row w 73 7 v (l.map Pkt.cells)) (hv : v.ownBlock ≠ some z.qp) (hl : ∀ p ∈ l, U64 p.size) (hn : n + l.length ≤ 900000) :
    Calls Try.prog 18 #[.pointer (some ⟨z.a, 0, none⟩), v] w fun e w' => e = .returned (.int .i64 (s.kept l)) ∧ (∃ qp, LnkAt w' (z.withQ qp) (s.send l) ∧ (qp = z.qp ∨ w.heap.size ≤ qp)) ∧ Keeps [z.a, z.q, z.qr, z.qp] w w' := by
  obtain ⟨A, cap, rfl⟩ := R.formN (n := l.length) (by simp)
  go_enter Try.func18, Try.ntmps18
  go_wp2_with (fail)
  go_loopw [5, 13] (fun c i wr => ∃ k : Nat, k ≤ l.length ∧ i = .int .i64 k ∧ c = .int .i64 (s.kept (l.take k)) ∧ (∃ qp, LnkAt wr (z.withQ qp) (s.send (l.take k)) ∧ (qp = z.qp ∨ w.heap.size ≤ qp)) ∧ Keeps [z.a, z.q, z.qr, z.qp] w wr) (fun _ i _ => l.length - (intOf i).toNat)
  case atStart => exact ⟨0, Nat.zero_le _, rfl, rfl, ⟨z.qp, h, .inl rfl⟩, Keeps.refl _ _⟩
  case round =>
    obtain ⟨k, hk, rfl, rfl, ⟨qp, H, hqp⟩, K⟩ := hrel
    have hA : ∀ c, (Value.slice A l.length cap).ownBlock = some c → c ∉ [z.a, z.q, z.qr, z.qp] := by
      intro c hc
      have e1 := R.type h.blk (by decide)
      have e2 := R.type h.hq.blk (by decide)
      obtain ⟨_, _, _, _, hr⟩ := h.hq.row
      have e3 := R.type hr.ring (by decide)
      have f : ∀ x, (Value.slice A l.length cap).ownBlock ≠ some x → c ≠ x := by rintro x hx rfl; exact hx hc
      exact nm_cons (f _ e1) (nm_cons (f _ e2) (nm_cons (f _ e3) (nm_cons (f _ hv) List.not_mem_nil)))
    have Rr := R.keeps K hA
    by_cases hlt : k < l.length
    · obtain ⟨g, rfl⟩ := Rr.addr (by simp; omega)
      have hxk : (l.map Pkt.cells)[k]? = some (l[k]).cells := by simp [hlt]
      have y := fun j hj => Rr.at_ (j := j) hxk hj
      have y0 := y 0 (by decide)
      have y1 := y 1 (by decide)
      have y2 := y 2 (by decide)
      have y3 := y 3 (by decide)
      have y4 := y 4 (by decide)
      have y5 := y 5 (by decide)
      have y6 := y 6 (by decide)
      simp only [Pkt.cells, List.getElem?_cons_zero, List.getElem?_cons_succ, Nat.add_zero] at y0 y1 y2 y3 y4 y5 y6
      have hlt' : (k : Int) < l.length := by omega
      have ok1 := Lnk.Ok.send (l.take k) ok (fun p hp => hl p (List.mem_of_mem_take hp))
      have hp0 := hl _ (List.getElem_mem hlt)
      obtain ⟨hs1, hs2⟩ := send_take s l k hlt
      have ok2 := ok1.send1 hp0
      have hlen := ok1.len
      rw [List.length_take] at hlen
      replace hs1 : Hid _ := hs1
      replace hs2 : Hid _ := hs2
      clear y hxk Rr R hA
      generalize s.send (l.take k) = sk at *
      generalize l[k] = p at *
      go_wp2_with (fail)
      obtain ⟨ap, hq, hj, hb⟩ : (z.withQ qp).Apart ∧ QueAt wr z.q z.qr qp sk.Q ∧ JbxAt wr z.j z.jr z.jp sk.J ∧ BktAt wr z.b sk.B := ⟨H.apart, H.hq, H.hj, H.hb⟩
      have B : Blk wr z.a 116 [.int .u64 sk.ra, .int .u64 sk.de, .int .u64 sk.ji, .int .u64 sk.bu, .int .u64 sk.now, .pointer (some ⟨z.b, 0, none⟩), .pointer (some ⟨z.q, 0, none⟩), .pointer (some ⟨z.j, 0, none⟩), .int .u64 sk.came, .int .u64 0, .int .u64 0, .int .u64 sk.served, .int .u64 0, .int .u64 sk.delivered] := H.blk
      replace K : Keeps [z.a, z.q, z.qr, qp, z.qp] w wr := K.mono (by intro c hc; left; simp at hc ⊢; rcases hc with h | h | h | h <;> simp [h])
      clear H y0 y1 y2 y3 y4 y5 y6
      have ne_z_a_b7 : z.a ≠ wr.heap.size := by have h_ := B.lt; omega
      have ne_z_b_b7 : z.b ≠ wr.heap.size := by have h_ := hb.lt; omega
      have ne_z_q_b7 : z.q ≠ wr.heap.size := by have h_ := hq.lt; omega
      have ne_z_qr_b7 : z.qr ≠ wr.heap.size := by have h_ := hq.lt; omega
      have ne_qp_b7 : qp ≠ wr.heap.size := by have h_ := hq.lt; omega
      have ne_z_j_b7 : z.j ≠ wr.heap.size := by have h_ := hj.lt; omega
      have ne_z_jr_b7 : z.jr ≠ wr.heap.size := by have h_ := hj.lt; omega
      have ne_z_jp_b7 : z.jp ≠ wr.heap.size := by have h_ := hj.lt; omega
      have fr_b7 : w.heap.size ≤ wr.heap.size := by have h_ := K.size; omega
      refine wp_at (fun W => Blk W z.a 116 [.int .u64 sk.ra, .int .u64 sk.de, .int .u64 sk.ji, .int .u64 sk.bu, .int .u64 sk.now, .pointer (some ⟨z.b, 0, none⟩), .pointer (some ⟨z.q, 0, none⟩), .pointer (some ⟨z.j, 0, none⟩), .int .u64 sk.came, .int .u64 0, .int .u64 0, .int .u64 sk.served, .int .u64 0, .int .u64 sk.delivered] ∧ BktAt W z.b sk.B ∧ QueAt W z.q z.qr qp sk.Q ∧ JbxAt W z.j z.jr z.jp sk.J ∧ Keeps [z.a, z.q, z.qr, qp, z.qp] w W ∧ Blk W wr.heap.size 73 [.int .u64 p.n, .int .u64 p.size, .int .u64 p.sent, .int .u64 p.first, .int .u64 p.del, .int .u64 p.at_, .bool p.lim]) (by
        refine ⟨?_, ?_, ?_, ?_, ?_, ?_⟩
        · exact (by (repeat (first | with_reducible exact B | with_reducible apply Blk.drew | with_reducible apply Blk.drewN | with_reducible refine Blk.newAt (by simp; done) | with_reducible apply Blk.alloc | with_reducible apply Blk.set2 | with_reducible apply Blk.far)); (all_goals (first | rfl | assumption | (exact Ne.symm (by assumption)) | (simp; done) | (simp; omega) | omega)))
        · exact (hb.keeps (bs := []) (by (repeat (first | with_reducible exact (Keeps.refl _ _) | with_reducible apply Keeps.drew | with_reducible apply Keeps.drewN | with_reducible apply Keeps.alloc | with_reducible apply Keeps.set_)); (all_goals (first | (left; simp; done) | (right; simp; done) | (right; simp; omega) | (right; omega)))) (List.not_mem_nil))
        · exact (hq.keeps (bs := []) (by (repeat (first | with_reducible exact (Keeps.refl _ _) | with_reducible apply Keeps.drew | with_reducible apply Keeps.drewN | with_reducible apply Keeps.alloc | with_reducible apply Keeps.set_)); (all_goals (first | (left; simp; done) | (right; simp; done) | (right; simp; omega) | (right; omega)))) (List.not_mem_nil) (List.not_mem_nil) (List.not_mem_nil))
        · exact (hj.keeps (bs := []) (by (repeat (first | with_reducible exact (Keeps.refl _ _) | with_reducible apply Keeps.drew | with_reducible apply Keeps.drewN | with_reducible apply Keeps.alloc | with_reducible apply Keeps.set_)); (all_goals (first | (left; simp; done) | (right; simp; done) | (right; simp; omega) | (right; omega)))) (List.not_mem_nil) (List.not_mem_nil) (List.not_mem_nil))
        · exact (by (repeat (first | with_reducible exact K | with_reducible apply Keeps.drew | with_reducible apply Keeps.drewN | with_reducible apply Keeps.alloc | with_reducible apply Keeps.set_)); (all_goals (first | (left; simp; done) | (right; assumption) | (right; simp; done) | (right; simp; omega) | (right; omega))))
        · exact (by (repeat (first | with_reducible refine Blk.newAt (by simp; done) | with_reducible apply Blk.drew | with_reducible apply Blk.drewN | with_reducible apply Blk.alloc | with_reducible apply Blk.set2 | with_reducible apply Blk.far)); (all_goals (first | rfl | assumption | (simp; done) | (simp; omega) | omega)))) ?_
      clear B hb hq hj K
      rintro W1 ⟨B, hb, hq, hj, K, T⟩
      generalize hb_b7 : wr.heap.size = b7 at *
      have hl_B := B.lt
      have f_B := fun i => B.frozen i
      have hl_T := T.lt
      have f_T := fun i => T.frozen i
      refine start_ (n := 14) (S := fun w' => Blk w' z.a 116 [.int .u64 sk.ra, .int .u64 sk.de, .int .u64 sk.ji, .int .u64 sk.bu, .int .u64 sk.now, .pointer (some ⟨z.b, 0, none⟩), .pointer (some ⟨z.q, 0, none⟩), .pointer (some ⟨z.j, 0, none⟩), .int .u64 sk.came, .int .u64 0, .int .u64 0, .int .u64 sk.served, .int .u64 0, .int .u64 sk.delivered] ∧ BktAt w' z.b sk.B ∧ QueAt w' z.q z.qr qp sk.Q ∧ JbxAt w' z.j z.jr z.jp sk.J ∧ Keeps [z.a, z.q, z.qr, qp, z.qp] w w' ∧ Blk w' b7 73 [.int .u64 p.n, .int .u64 p.size, .int .u64 p.sent, .int .u64 p.first, .int .u64 p.del, .int .u64 p.at_, .bool p.lim] ∧ w'.cell? ⟨z.a, 0, none⟩ = some (.int .u64 sk.ra) ∧ w'.cell? ⟨z.a, 1, none⟩ = some (.int .u64 sk.de) ∧ w'.cell? ⟨z.a, 2, none⟩ = some (.int .u64 sk.ji) ∧ w'.cell? ⟨z.a, 3, none⟩ = some (.int .u64 sk.bu) ∧ w'.cell? ⟨z.a, 4, none⟩ = some (.int .u64 sk.now) ∧ w'.cell? ⟨z.a, 5, none⟩ = some (.pointer (some ⟨z.b, 0, none⟩)) ∧ w'.cell? ⟨z.a, 6, none⟩ = some (.pointer (some ⟨z.q, 0, none⟩)) ∧ w'.cell? ⟨z.a, 7, none⟩ = some (.pointer (some ⟨z.j, 0, none⟩)) ∧ w'.cell? ⟨z.a, 8, none⟩ = some (.int .u64 sk.came) ∧ w'.cell? ⟨z.a, 9, none⟩ = some (.int .u64 0) ∧ w'.cell? ⟨z.a, 10, none⟩ = some (.int .u64 0) ∧ w'.cell? ⟨z.a, 11, none⟩ = some (.int .u64 sk.served) ∧ w'.cell? ⟨z.a, 12, none⟩ = some (.int .u64 0) ∧ w'.cell? ⟨z.a, 13, none⟩ = some (.int .u64 sk.delivered) ∧ w'.cell? ⟨b7, 0, none⟩ = some (.int .u64 p.n) ∧ w'.cell? ⟨b7, 1, none⟩ = some (.int .u64 p.size) ∧ w'.cell? ⟨b7, 2, none⟩ = some (.int .u64 p.sent) ∧ w'.cell? ⟨b7, 3, none⟩ = some (.int .u64 p.first) ∧ w'.cell? ⟨b7, 4, none⟩ = some (.int .u64 p.del) ∧ w'.cell? ⟨b7, 5, none⟩ = some (.int .u64 p.at_) ∧ w'.cell? ⟨b7, 6, none⟩ = some (.bool p.lim)) (ds := [13]) #[false, false, false, false, false, false, false, false, false, false, false, false, false, false] (by kernel_rfl) rfl rfl ⟨(Blk.drew B), (hb.keeps ((Keeps.refl [] _).drew) (List.not_mem_nil)), (hq.keeps ((Keeps.refl [] _).drew) (List.not_mem_nil) (List.not_mem_nil) (List.not_mem_nil)), (hj.keeps ((Keeps.refl [] _).drew) (List.not_mem_nil) (List.not_mem_nil) (List.not_mem_nil)), (Keeps.drew K), (Blk.drew T), ((Blk.cell (Blk.drew B) 0).trans rfl), ((Blk.cell (Blk.drew B) 1).trans rfl), ((Blk.cell (Blk.drew B) 2).trans rfl), ((Blk.cell (Blk.drew B) 3).trans rfl), ((Blk.cell (Blk.drew B) 4).trans rfl), ((Blk.cell (Blk.drew B) 5).trans rfl), ((Blk.cell (Blk.drew B) 6).trans rfl), ((Blk.cell (Blk.drew B) 7).trans rfl), ((Blk.cell (Blk.drew B) 8).trans rfl), ((Blk.cell (Blk.drew B) 9).trans rfl), ((Blk.cell (Blk.drew B) 10).trans rfl), ((Blk.cell (Blk.drew B) 11).trans rfl), ((Blk.cell (Blk.drew B) 12).trans rfl), ((Blk.cell (Blk.drew B) 13).trans rfl), ((Blk.cell (Blk.drew T) 0).trans rfl), ((Blk.cell (Blk.drew T) 1).trans rfl), ((Blk.cell (Blk.drew T) 2).trans rfl), ((Blk.cell (Blk.drew T) 3).trans rfl), ((Blk.cell (Blk.drew T) 4).trans rfl), ((Blk.cell (Blk.drew T) 5).trans rfl), ((Blk.cell (Blk.drew T) 6).trans rfl)⟩ (fun hHeld => ?_)
      refine pure_ (i := 0) (N := some 17) (v := ?_) (a' := ?_) #[true, false, false, false, false, false, false, false, false, false, false, false, false, false] rfl rfl (by kernel_rfl) (fun _ _ _ h => h) (Or.inl ⟨by rfl, ?_⟩) ?_ ?_
      rotate_left
      · intro w'
        go_simp
        with_reducible rfl
      rotate_left
      · simp only [Act.put, List.setIfInBounds_toArray, List.set_cons_zero, List.set_cons_succ, i64_w, i32_w]
        rfl
      refine pure_ (i := 1) (N := some 18) (v := ?_) (a' := ?_) #[true, true, false, false, false, false, false, false, false, false, false, false, false, false] rfl rfl (by kernel_rfl) (fun _ _ _ h => h) (Or.inl ⟨by rfl, ?_⟩) ?_ ?_
      rotate_left
      · intro w'
        go_simp
        with_reducible rfl
      rotate_left
      · simp only [Act.put, List.setIfInBounds_toArray, List.set_cons_zero, List.set_cons_succ, i64_w, i32_w]
        rfl
      refine pure_ (i := 2) (N := some 19) (v := ?_) (a' := ?_) #[true, true, true, false, false, false, false, false, false, false, false, false, false, false] rfl rfl (by kernel_rfl) (fun _ _ _ h => h) (Or.inl ⟨by rfl, ?_⟩) ?_ ?_
      rotate_left
      · intro w'
        go_simp
        with_reducible rfl
      rotate_left
      · simp only [Act.put, List.setIfInBounds_toArray, List.set_cons_zero, List.set_cons_succ, i64_w, i32_w]
        rfl
      refine pure_ (i := 3) (N := some 20) (v := ?_) (a' := ?_) #[true, true, true, true, false, false, false, false, false, false, false, false, false, false] rfl rfl (by kernel_rfl) (fun _ _ _ h => h) (Or.inl ⟨by rfl, ?_⟩) ?_ ?_
      rotate_left
      · intro w'
        go_simp
        with_reducible rfl
      rotate_left
      · simp only [Act.put, List.setIfInBounds_toArray, List.set_cons_zero, List.set_cons_succ, i64_w, i32_w]
        rfl
      refine pure_ (i := 4) (N := some 21) (v := ?_) (a' := ?_) #[true, true, true, true, true, false, false, false, false, false, false, false, false, false] rfl rfl (by kernel_rfl) (fun _ _ _ h => h) (Or.inl ⟨by rfl, ?_⟩) ?_ ?_
      rotate_left
      · intro w'
        go_simp
        with_reducible rfl
      rotate_left
      · simp only [Act.put, List.setIfInBounds_toArray, List.set_cons_zero, List.set_cons_succ, i64_w, i32_w]
        rfl
      refine pure_ (i := 6) (N := some 23) (v := ?_) (a' := ?_) #[true, true, true, true, true, false, true, false, false, false, false, false, false, false] rfl rfl (by kernel_rfl) (fun _ _ _ h => h) (Or.inl ⟨by rfl, ?_⟩) ?_ ?_
      rotate_left
      · intro w'
        go_simp
        with_reducible rfl
      rotate_left
      · simp only [Act.put, List.setIfInBounds_toArray, List.set_cons_zero, List.set_cons_succ, i64_w, i32_w]
        rfl
      refine take_ (i := 5) (N := some 22) (v := ?_) (a' := ?_) #[true, true, true, true, true, true, true, false, false, false, false, false, false, false] rfl rfl (by kernel_rfl) (fun _ _ _ h => h) (Or.inl ⟨by rfl, ?_⟩) hHeld ?_ ?_
      rotate_left
      · rintro w' ⟨s0, s1, s2, s3, s4, s5, s6, s7, s8, s9, s10, s11, s12, s13, s14, s15, s16, s17, s18, s19, s20, s21, s22, s23, s24, s25, s26⟩
        go_simp
        with_reducible rfl
      rotate_left
      · simp only [Act.put, List.setIfInBounds_toArray, List.set_cons_zero, List.set_cons_succ, i64_w, i32_w]
        rfl
      refine take_ (i := 7) (N := some 24) (v := ?_) (a' := ?_) #[true, true, true, true, true, true, true, true, false, false, false, false, false, false] rfl rfl (by kernel_rfl) (fun _ _ _ h => h) (Or.inl ⟨by rfl, ?_⟩) hHeld ?_ ?_
      rotate_left
      · rintro w' ⟨s0, s1, s2, s3, s4, s5, s6, s7, s8, s9, s10, s11, s12, s13, s14, s15, s16, s17, s18, s19, s20, s21, s22, s23, s24, s25, s26⟩
        go_simp
        with_reducible rfl
      rotate_left
      · simp only [Act.put, List.setIfInBounds_toArray, List.set_cons_zero, List.set_cons_succ, i64_w, i32_w]
        rfl
      refine one_ (i := 8) (N := some 25) #[true, true, true, true, true, true, true, true, true, false, false, false, false, false] rfl rfl (by kernel_rfl) (by decide) (fun K hK => ?_)
      refine value_ (w1 := ?_) (v := ?_) (by rfl) rfl ?_ ?_
      rotate_left 2
      · go_simp
        constructor
        · rfl
        · rfl
      refine hK.out _ _ ⟨(Blk.alloc hHeld.1 _), (hHeld.2.1.keeps ((Keeps.refl [] _).alloc _) (List.not_mem_nil)), (hHeld.2.2.1.keeps ((Keeps.refl [] _).alloc _) (List.not_mem_nil) (List.not_mem_nil) (List.not_mem_nil)), (hHeld.2.2.2.1.keeps ((Keeps.refl [] _).alloc _) (List.not_mem_nil) (List.not_mem_nil) (List.not_mem_nil)), (Keeps.alloc hHeld.2.2.2.2.1 _), (Blk.alloc hHeld.2.2.2.2.2.1 _), ((Blk.cell (Blk.alloc hHeld.1 _) 0).trans rfl), ((Blk.cell (Blk.alloc hHeld.1 _) 1).trans rfl), ((Blk.cell (Blk.alloc hHeld.1 _) 2).trans rfl), ((Blk.cell (Blk.alloc hHeld.1 _) 3).trans rfl), ((Blk.cell (Blk.alloc hHeld.1 _) 4).trans rfl), ((Blk.cell (Blk.alloc hHeld.1 _) 5).trans rfl), ((Blk.cell (Blk.alloc hHeld.1 _) 6).trans rfl), ((Blk.cell (Blk.alloc hHeld.1 _) 7).trans rfl), ((Blk.cell (Blk.alloc hHeld.1 _) 8).trans rfl), ((Blk.cell (Blk.alloc hHeld.1 _) 9).trans rfl), ((Blk.cell (Blk.alloc hHeld.1 _) 10).trans rfl), ((Blk.cell (Blk.alloc hHeld.1 _) 11).trans rfl), ((Blk.cell (Blk.alloc hHeld.1 _) 12).trans rfl), ((Blk.cell (Blk.alloc hHeld.1 _) 13).trans rfl), ((Blk.cell (Blk.alloc hHeld.2.2.2.2.2.1 _) 0).trans rfl), ((Blk.cell (Blk.alloc hHeld.2.2.2.2.2.1 _) 1).trans rfl), ((Blk.cell (Blk.alloc hHeld.2.2.2.2.2.1 _) 2).trans rfl), ((Blk.cell (Blk.alloc hHeld.2.2.2.2.2.1 _) 3).trans rfl), ((Blk.cell (Blk.alloc hHeld.2.2.2.2.2.1 _) 4).trans rfl), ((Blk.cell (Blk.alloc hHeld.2.2.2.2.2.1 _) 5).trans rfl), ((Blk.cell (Blk.alloc hHeld.2.2.2.2.2.1 _) 6).trans rfl)⟩ ?_
      clear hK K hHeld
      intro hHeld
      refine norm_ (a' := ?_) ?_ ?_
      rotate_left
      · show Act.put _ (some 25) _ = _
        simp only [Act.put, List.setIfInBounds_toArray, List.set_cons_zero, List.set_cons_succ, i64_w, i32_w]
        rfl
      refine one_ (i := 9) (N := some 26) #[true, true, true, true, true, true, true, true, true, true, false, false, false, false] rfl rfl (by kernel_rfl) (by decide) (fun K hK => ?_)
      refine goes_ Try.func58 (by kernel_rfl) rfl #[.slice (some ⟨W1.heap.size, 0, none⟩) 2 2] (by rfl) rfl rfl (by simp only [List.map_toArray, List.map_cons, List.map_nil]; rfl) ?_
      with_reducible refine (add2 W1.heap.size sk.came p.size _ ok1.came hp0 _ (Blk.drew (Blk.new W1 22 [.int .u64 sk.came, .int .u64 p.size]))).mono ?_
      rintro e w3 ⟨rfl, rfl⟩
      refine ⟨_, rfl, ?_⟩
      refine hK.out _ _ ⟨hHeld.1, hHeld.2.1, hHeld.2.2.1, hHeld.2.2.2.1, hHeld.2.2.2.2.1, hHeld.2.2.2.2.2.1, ((Blk.cell hHeld.1 0).trans rfl), ((Blk.cell hHeld.1 1).trans rfl), ((Blk.cell hHeld.1 2).trans rfl), ((Blk.cell hHeld.1 3).trans rfl), ((Blk.cell hHeld.1 4).trans rfl), ((Blk.cell hHeld.1 5).trans rfl), ((Blk.cell hHeld.1 6).trans rfl), ((Blk.cell hHeld.1 7).trans rfl), ((Blk.cell hHeld.1 8).trans rfl), ((Blk.cell hHeld.1 9).trans rfl), ((Blk.cell hHeld.1 10).trans rfl), ((Blk.cell hHeld.1 11).trans rfl), ((Blk.cell hHeld.1 12).trans rfl), ((Blk.cell hHeld.1 13).trans rfl), ((Blk.cell hHeld.2.2.2.2.2.1 0).trans rfl), ((Blk.cell hHeld.2.2.2.2.2.1 1).trans rfl), ((Blk.cell hHeld.2.2.2.2.2.1 2).trans rfl), ((Blk.cell hHeld.2.2.2.2.2.1 3).trans rfl), ((Blk.cell hHeld.2.2.2.2.2.1 4).trans rfl), ((Blk.cell hHeld.2.2.2.2.2.1 5).trans rfl), ((Blk.cell hHeld.2.2.2.2.2.1 6).trans rfl)⟩ ?_
      clear hK K hHeld
      intro hHeld
      refine norm_ (a' := ?_) ?_ ?_
      rotate_left
      · show Act.put _ (some 26) _ = _
        simp only [Act.put, List.setIfInBounds_toArray, List.set_cons_zero, List.set_cons_succ, i64_w, i32_w]
        rfl
      refine pure_ (i := 10) (N := some 27) (v := ?_) (a' := ?_) #[true, true, true, true, true, true, true, true, true, true, true, false, false, false] rfl rfl (by kernel_rfl) (fun _ _ _ h => h) (Or.inl ⟨by rfl, ?_⟩) ?_ ?_
      rotate_left
      · intro w'
        go_simp
        with_reducible rfl
      rotate_left
      · simp only [Act.put, List.setIfInBounds_toArray, List.set_cons_zero, List.set_cons_succ, i64_w, i32_w]
        rfl
      refine pure_ (i := 11) (N := some 28) (v := ?_) (a' := ?_) #[true, true, true, true, true, true, true, true, true, true, true, true, false, false] rfl rfl (by kernel_rfl) (fun _ _ _ h => h) (Or.inl ⟨by rfl, ?_⟩) ?_ ?_
      rotate_left
      · intro w'
        go_simp
        with_reducible rfl
      rotate_left
      · simp only [Act.put, List.setIfInBounds_toArray, List.set_cons_zero, List.set_cons_succ, i64_w, i32_w]
        rfl
      refine pure_ (i := 12) (N := some 29) (v := ?_) (a' := ?_) #[true, true, true, true, true, true, true, true, true, true, true, true, true, false] rfl rfl (by kernel_rfl) (fun _ _ _ h => h) (Or.inl ⟨by rfl, ?_⟩) ?_ ?_
      rotate_left
      · intro w'
        go_simp
        with_reducible rfl
      rotate_left
      · simp only [Act.put, List.setIfInBounds_toArray, List.set_cons_zero, List.set_cons_succ, i64_w, i32_w]
        rfl
      refine last_ (i := 13) (N := none) #[true, true, true, true, true, true, true, true, true, true, true, true, true, true] rfl rfl (by kernel_rfl) (by decide) (fun K hK => ?_)
      refine skip_ (w1 := ?_) (by rfl) rfl ?_ ?_
      rotate_left
      · go_simp
        rfl
      refine hK.out _ _ ?_
      clear hK K
      refine done_ (by kernel_rfl) ?_
      clear hHeld f_B hl_B f_T hl_T
      refine exit_at (fun W => Blk W z.a 116 [.int .u64 sk.ra, .int .u64 sk.de, .int .u64 sk.ji, .int .u64 sk.bu, .int .u64 sk.now, .pointer (some ⟨z.b, 0, none⟩), .pointer (some ⟨z.q, 0, none⟩), .pointer (some ⟨z.j, 0, none⟩), .int .u64 (sat (sk.came + p.size)), .int .u64 0, .int .u64 0, .int .u64 sk.served, .int .u64 0, .int .u64 sk.delivered] ∧ BktAt W z.b sk.B ∧ QueAt W z.q z.qr qp sk.Q ∧ JbxAt W z.j z.jr z.jp sk.J ∧ Keeps [z.a, z.q, z.qr, qp, z.qp] w W ∧ Blk W b7 73 [.int .u64 p.n, .int .u64 p.size, .int .u64 p.sent, .int .u64 p.first, .int .u64 p.del, .int .u64 p.at_, .bool p.lim]) (by
        refine ⟨?_, ?_, ?_, ?_, ?_, ?_⟩
        · exact (by (repeat (first | with_reducible exact B | with_reducible apply Blk.drew | with_reducible apply Blk.drewN | with_reducible refine Blk.newAt (by simp; done) | with_reducible apply Blk.alloc | with_reducible apply Blk.set2 | with_reducible apply Blk.far)); (all_goals (first | rfl | assumption | (exact Ne.symm (by assumption)) | (simp; done) | (simp; omega) | omega)))
        · exact (hb.keeps (bs := [z.a]) (by (repeat (first | with_reducible exact (Keeps.refl _ _) | with_reducible apply Keeps.drew | with_reducible apply Keeps.drewN | with_reducible apply Keeps.alloc | with_reducible apply Keeps.set_)); (all_goals (first | (left; simp; done) | (right; simp; done) | (right; simp; omega) | (right; omega)))) ((nm_cons (Ne.symm (ap.n01)) List.not_mem_nil)))
        · exact (hq.keeps (bs := [z.a]) (by (repeat (first | with_reducible exact (Keeps.refl _ _) | with_reducible apply Keeps.drew | with_reducible apply Keeps.drewN | with_reducible apply Keeps.alloc | with_reducible apply Keeps.set_)); (all_goals (first | (left; simp; done) | (right; simp; done) | (right; simp; omega) | (right; omega)))) ((nm_cons (Ne.symm (ap.n02)) List.not_mem_nil)) ((nm_cons (Ne.symm (ap.n03)) List.not_mem_nil)) ((nm_cons (Ne.symm (ap.n04)) List.not_mem_nil)))
        · exact (hj.keeps (bs := [z.a]) (by (repeat (first | with_reducible exact (Keeps.refl _ _) | with_reducible apply Keeps.drew | with_reducible apply Keeps.drewN | with_reducible apply Keeps.alloc | with_reducible apply Keeps.set_)); (all_goals (first | (left; simp; done) | (right; simp; done) | (right; simp; omega) | (right; omega)))) ((nm_cons (Ne.symm (ap.n05)) List.not_mem_nil)) ((nm_cons (Ne.symm (ap.n06)) List.not_mem_nil)) ((nm_cons (Ne.symm (ap.n07)) List.not_mem_nil)))
        · exact (by (repeat (first | with_reducible exact K | with_reducible apply Keeps.drew | with_reducible apply Keeps.drewN | with_reducible apply Keeps.alloc | with_reducible apply Keeps.set_)); (all_goals (first | (left; simp; done) | (right; assumption) | (right; simp; done) | (right; simp; omega) | (right; omega))))
        · exact (by (repeat (first | with_reducible exact T | with_reducible apply Blk.drew | with_reducible apply Blk.drewN | with_reducible refine Blk.newAt (by simp; done) | with_reducible apply Blk.alloc | with_reducible apply Blk.set2 | with_reducible apply Blk.far)); (all_goals (first | rfl | assumption | (exact Ne.symm (by assumption)) | (simp; done) | (simp; omega) | omega)))) ?_
      clear B hb hq hj K T
      rintro W2 ⟨B, hb, hq, hj, K, T⟩
      have hW2 := K.size
      go_wp2_with (fail)
      have hput := que_put z.q z.qr qp sk.Q p W2.drew hq.drew ok1.room ok1.ub ok1.dropped ok1.gone hp0 ok1.fit (by omega)
      simp only [Pkt.val] at hput
      refine start_ (n := 6) (S := fun w' => Blk w' z.a 116 [.int .u64 sk.ra, .int .u64 sk.de, .int .u64 sk.ji, .int .u64 sk.bu, .int .u64 sk.now, .pointer (some ⟨z.b, 0, none⟩), .pointer (some ⟨z.q, 0, none⟩), .pointer (some ⟨z.j, 0, none⟩), .int .u64 (sat (sk.came + p.size)), .int .u64 0, .int .u64 0, .int .u64 sk.served, .int .u64 0, .int .u64 sk.delivered] ∧ BktAt w' z.b sk.B ∧ QueAt w' z.q z.qr qp sk.Q ∧ JbxAt w' z.j z.jr z.jp sk.J ∧ Keeps [z.a, z.q, z.qr, qp, z.qp] w w' ∧ Blk w' b7 73 [.int .u64 p.n, .int .u64 p.size, .int .u64 p.sent, .int .u64 p.first, .int .u64 p.del, .int .u64 p.at_, .bool p.lim] ∧ w'.cell? ⟨z.a, 0, none⟩ = some (.int .u64 sk.ra) ∧ w'.cell? ⟨z.a, 1, none⟩ = some (.int .u64 sk.de) ∧ w'.cell? ⟨z.a, 2, none⟩ = some (.int .u64 sk.ji) ∧ w'.cell? ⟨z.a, 3, none⟩ = some (.int .u64 sk.bu) ∧ w'.cell? ⟨z.a, 4, none⟩ = some (.int .u64 sk.now) ∧ w'.cell? ⟨z.a, 5, none⟩ = some (.pointer (some ⟨z.b, 0, none⟩)) ∧ w'.cell? ⟨z.a, 6, none⟩ = some (.pointer (some ⟨z.q, 0, none⟩)) ∧ w'.cell? ⟨z.a, 7, none⟩ = some (.pointer (some ⟨z.j, 0, none⟩)) ∧ w'.cell? ⟨z.a, 8, none⟩ = some (.int .u64 (sat (sk.came + p.size))) ∧ w'.cell? ⟨z.a, 9, none⟩ = some (.int .u64 0) ∧ w'.cell? ⟨z.a, 10, none⟩ = some (.int .u64 0) ∧ w'.cell? ⟨z.a, 11, none⟩ = some (.int .u64 sk.served) ∧ w'.cell? ⟨z.a, 12, none⟩ = some (.int .u64 0) ∧ w'.cell? ⟨z.a, 13, none⟩ = some (.int .u64 sk.delivered) ∧ w'.cell? ⟨b7, 0, none⟩ = some (.int .u64 p.n) ∧ w'.cell? ⟨b7, 1, none⟩ = some (.int .u64 p.size) ∧ w'.cell? ⟨b7, 2, none⟩ = some (.int .u64 p.sent) ∧ w'.cell? ⟨b7, 3, none⟩ = some (.int .u64 p.first) ∧ w'.cell? ⟨b7, 4, none⟩ = some (.int .u64 p.del) ∧ w'.cell? ⟨b7, 5, none⟩ = some (.int .u64 p.at_) ∧ w'.cell? ⟨b7, 6, none⟩ = some (.bool p.lim)) (ds := [5]) #[false, false, false, false, false, false] (by kernel_rfl) rfl rfl ⟨(Blk.drew B), (hb.keeps ((Keeps.refl [] _).drew) (List.not_mem_nil)), (hq.keeps ((Keeps.refl [] _).drew) (List.not_mem_nil) (List.not_mem_nil) (List.not_mem_nil)), (hj.keeps ((Keeps.refl [] _).drew) (List.not_mem_nil) (List.not_mem_nil) (List.not_mem_nil)), (Keeps.drew K), (Blk.drew T), ((Blk.cell (Blk.drew B) 0).trans rfl), ((Blk.cell (Blk.drew B) 1).trans rfl), ((Blk.cell (Blk.drew B) 2).trans rfl), ((Blk.cell (Blk.drew B) 3).trans rfl), ((Blk.cell (Blk.drew B) 4).trans rfl), ((Blk.cell (Blk.drew B) 5).trans rfl), ((Blk.cell (Blk.drew B) 6).trans rfl), ((Blk.cell (Blk.drew B) 7).trans rfl), ((Blk.cell (Blk.drew B) 8).trans rfl), ((Blk.cell (Blk.drew B) 9).trans rfl), ((Blk.cell (Blk.drew B) 10).trans rfl), ((Blk.cell (Blk.drew B) 11).trans rfl), ((Blk.cell (Blk.drew B) 12).trans rfl), ((Blk.cell (Blk.drew B) 13).trans rfl), ((Blk.cell (Blk.drew T) 0).trans rfl), ((Blk.cell (Blk.drew T) 1).trans rfl), ((Blk.cell (Blk.drew T) 2).trans rfl), ((Blk.cell (Blk.drew T) 3).trans rfl), ((Blk.cell (Blk.drew T) 4).trans rfl), ((Blk.cell (Blk.drew T) 5).trans rfl), ((Blk.cell (Blk.drew T) 6).trans rfl)⟩ (fun hHeld => ?_)
      refine pure_ (i := 0) (N := some 30) (v := ?_) (a' := ?_) #[true, false, false, false, false, false] rfl rfl (by kernel_rfl) (fun _ _ _ h => h) (Or.inl ⟨by rfl, ?_⟩) ?_ ?_
      rotate_left
      · intro w'
        go_simp
        with_reducible rfl
      rotate_left
      · simp only [Act.put, List.setIfInBounds_toArray, List.set_cons_zero, List.set_cons_succ, i64_w, i32_w]
        rfl
      refine pure_ (i := 1) (N := some 31) (v := ?_) (a' := ?_) #[true, true, false, false, false, false] rfl rfl (by kernel_rfl) (fun _ _ _ h => h) (Or.inl ⟨by rfl, ?_⟩) ?_ ?_
      rotate_left
      · intro w'
        go_simp
        with_reducible rfl
      rotate_left
      · simp only [Act.put, List.setIfInBounds_toArray, List.set_cons_zero, List.set_cons_succ, i64_w, i32_w]
        rfl
      refine pure_ (i := 2) (N := some 32) (v := ?_) (a' := ?_) #[true, true, true, false, false, false] rfl rfl (by kernel_rfl) (fun _ _ _ h => h) (Or.inl ⟨by rfl, ?_⟩) ?_ ?_
      rotate_left
      · intro w'
        go_simp
        with_reducible rfl
      rotate_left
      · simp only [Act.put, List.setIfInBounds_toArray, List.set_cons_zero, List.set_cons_succ, i64_w, i32_w]
        rfl
      refine take_ (i := 3) (N := some 33) (v := ?_) (a' := ?_) #[true, true, true, true, false, false] rfl rfl (by kernel_rfl) (fun _ _ _ h => h) (Or.inl ⟨by rfl, ?_⟩) hHeld ?_ ?_
      rotate_left
      · rintro w' ⟨s0, s1, s2, s3, s4, s5, s6, s7, s8, s9, s10, s11, s12, s13, s14, s15, s16, s17, s18, s19, s20, s21, s22, s23, s24, s25, s26⟩
        go_simp
        with_reducible rfl
      rotate_left
      · simp only [Act.put, List.setIfInBounds_toArray, List.set_cons_zero, List.set_cons_succ, i64_w, i32_w]
        rfl
      refine take_ (i := 4) (N := some 34) (v := ?_) (a' := ?_) #[true, true, true, true, true, false] rfl rfl (by kernel_rfl) (fun _ _ _ h => h) (Or.inl ⟨by rfl, ?_⟩) hHeld ?_ ?_
      rotate_left
      · rintro w' ⟨s0, s1, s2, s3, s4, s5, s6, s7, s8, s9, s10, s11, s12, s13, s14, s15, s16, s17, s18, s19, s20, s21, s22, s23, s24, s25, s26⟩
        go_simp
        with_reducible rfl
      rotate_left
      · simp only [Act.put, List.setIfInBounds_toArray, List.set_cons_zero, List.set_cons_succ, i64_w, i32_w]
        rfl
      refine last_ (i := 5) (N := some 35) #[true, true, true, true, true, true] rfl rfl (by kernel_rfl) (by decide) (fun K hK => ?_)
      refine goes_ Try.func59 (by kernel_rfl) rfl #[.pointer (some ⟨z.q, 0, none⟩), .agg #[.int .u64 p.n, .int .u64 p.size, .int .u64 p.sent, .int .u64 p.first, .int .u64 p.del, .int .u64 p.at_, .bool p.lim]] (by rfl) rfl rfl (by simp only [List.map_toArray, List.map_cons, List.map_nil]; rfl) ?_
      with_reducible refine (hput).mono ?_
      rintro e w4 ⟨rfl, ⟨qp4, hq4, hqp4⟩, k4⟩
      refine ⟨_, rfl, ?_⟩
      have hBase := And.intro (Blk.keeps hHeld.1 k4 ((nm_cons (ap.n02) (nm_cons (ap.n03) (nm_cons (ap.n04) List.not_mem_nil))))) (And.intro (hHeld.2.1.keeps k4 ((nm_cons (ap.n12) (nm_cons (ap.n13) (nm_cons (ap.n14) List.not_mem_nil))))) (And.intro (hHeld.2.2.2.1.keeps k4 ((nm_cons (Ne.symm (ap.n25)) (nm_cons (Ne.symm (ap.n35)) (nm_cons (Ne.symm (ap.n45)) List.not_mem_nil)))) ((nm_cons (Ne.symm (ap.n26)) (nm_cons (Ne.symm (ap.n36)) (nm_cons (Ne.symm (ap.n46)) List.not_mem_nil)))) ((nm_cons (Ne.symm (ap.n27)) (nm_cons (Ne.symm (ap.n37)) (nm_cons (Ne.symm (ap.n47)) List.not_mem_nil))))) (And.intro (Keeps.trans hHeld.2.2.2.2.1 k4 (al_cons (.inl (by simp)) (al_cons (.inl (by simp)) (al_cons (.inl (by simp)) al_nil)))) ((Blk.keeps hHeld.2.2.2.2.2.1 k4 ((nm_cons (Ne.symm (ne_z_q_b7)) (nm_cons (Ne.symm (ne_z_qr_b7)) (nm_cons (Ne.symm (ne_qp_b7)) List.not_mem_nil)))))))))
      refine hK.out _ _ ?_
      clear hK K
      refine norm_ (a' := ?_) ?_ ?_
      rotate_left
      · show Act.put _ (some 35) _ = _
        simp only [Act.put, List.setIfInBounds_toArray, List.set_cons_zero, List.set_cons_succ, i64_w, i32_w]
        rfl
      refine done_ (by kernel_rfl) ?_
      clear hHeld B hb hq hj K T
      obtain ⟨B, hb, hj, K, T⟩ := hBase
      have hfin : LnkAt w4 (z.withQ qp4) (sk.send1 p) := ⟨B, hb, hq4, hj⟩
      have hq' : qp4 = z.qp ∨ w.heap.size ≤ qp4 := by
        have := K.size
        have hW2 : w.heap.size ≤ W2.heap.size := hW2
        rcases hqp4 with h' | h'
        · rw [h']; exact hqp
        · right; exact Nat.le_trans hW2 (by simpa using h')
      have K5 : Keeps [z.a, z.q, z.qr, z.qp] w w4 := K.mono (by
        intro c hc
        simp only [List.mem_cons, List.not_mem_nil, or_false] at hc
        rcases hc with h' | h' | h' | h' | h'
        · left; simp [h']
        · left; simp [h']
        · left; simp [h']
        · rw [h']; rcases hqp with h' | h'; left; simp [h']; right; exact h'
        · left; simp [h'])
      have hb2 := kept_le (l.take k) s
      rw [List.length_take] at hb2
      have n1 := i64k ((s.kept (l.take k) : Int) + 1) (by omega) (by omega)
      have n2 := i64w ((s.kept (l.take k) : Int) + 1) (by omega) (by omega)
      clear B hb hq4 hj T K hqp4
      generalize s.kept (l.take k) = m at *
      cases hf : sk.Q.fits p with
      | true =>
        have e2 : s.kept (l.take (k + 1)) = m + 1 := by rw [hs2.out, hf]; rfl
        replace e2 : Hid _ := e2
        go_wp2_with (fail)
        go_roundw
        case rel => exact ⟨k + 1, by omega, by go_num, by rw [e2.out]; go_num, ⟨qp4, by rw [hs1.out]; exact hfin, hq'⟩, K5⟩
        case measure => simp [intOf]; omega
      | false =>
        have e2 : s.kept (l.take (k + 1)) = m := by rw [hs2.out, hf]; rfl
        replace e2 : Hid _ := e2
        go_wp2_with (fail)
        go_roundw
        case rel => exact ⟨k + 1, by omega, by go_num, by rw [e2.out], ⟨qp4, by rw [hs1.out]; exact hfin, hq'⟩, K5⟩
        case measure => simp [intOf]; omega
    · obtain rfl : k = l.length := by omega
      rw [List.take_length] at H
      have e2 : s.kept (l.take l.length) = s.kept l := by rw [List.take_length]
      rw [e2]
      go_wp2
      go_ret
      exact ⟨rfl, ⟨qp, H, hqp⟩, K⟩
end Go.Proofs.Ytjnojomfaikfjaa
