/- link.Link: Count. -/
import Derived.Test.YtjnojomfaikfjaaLinkE
namespace Go.Proofs.Ytjnojomfaikfjaa
set_option linter.unusedSimpArgs false
set_option linter.unusedVariables false
open Go.RowKit Go.Proofs.YtjnojomfaikfjaaW.PrintLast
/-- a link's bytes -/
def Lnk.count (s : Lnk) : Value := .agg #[.int .u64 s.came, .int .u64 s.Q.gone, .int .u64 s.Q.bytes, .int .u64 s.served, .int .u64 s.under, .int .u64 s.delivered]
theorem lnk_count_nil (w : World) : Calls Try.prog 19 #[.pointer none] w fun e w' => e = .returned (.agg #[.int .u64 0, .int .u64 0, .int .u64 0, .int .u64 0, .int .u64 0, .int .u64 0]) ∧ Keeps [] w w' := by
  go_enter Try.func19, Try.ntmps19
  go_wp2
  refine bodyPost_ret (v := .agg #[.int .u64 0, .int .u64 0, .int .u64 0, .int .u64 0, .int .u64 0, .int .u64 0]) (by simp [results, Try.results19, go_sem]) rfl ⟨rfl, ?_⟩
  have K0 := Keeps.refl [] w
  exact (by (repeat (first | with_reducible exact K0 | with_reducible apply Keeps.drew | with_reducible apply Keeps.drewN | with_reducible apply Keeps.alloc | with_reducible apply Keeps.set_)); (all_goals (first | (left; simp; done) | (right; simp; done) | (right; simp; omega) | (right; omega))))
set_option maxHeartbeats 16000000 in
set_option maxRecDepth 100000 in
theorem lnk_count (z : LA) (s : Lnk) (n : Nat) (w : World) (h : LnkAt w z s) (ok : s.Ok n) (hn : n ≤ 900000) :
    Calls Try.prog 19 #[.pointer (some ⟨z.a, 0, none⟩)] w fun e w' => e = .returned s.count ∧ Keeps [] w w' := by
  have hlen := ok.len
  have hqj : QueAt w z.q z.qr z.qp s.Q ∧ JbxAt w z.j z.jr z.jp s.J := ⟨h.hq, h.hj⟩
  obtain ⟨hq, hj⟩ := hqj
  have B : Blk w z.a 116 [.int .u64 s.ra, .int .u64 s.de, .int .u64 s.ji, .int .u64 s.bu, .int .u64 s.now, .pointer (some ⟨z.b, 0, none⟩), .pointer (some ⟨z.q, 0, none⟩), .pointer (some ⟨z.j, 0, none⟩), .int .u64 s.came, .int .u64 0, .int .u64 0, .int .u64 s.served, .int .u64 0, .int .u64 s.delivered] := h.blk
  clear h
  go_enter Try.func19, Try.ntmps19
  have K : Keeps [] w w := Keeps.refl _ _
  have c_B_6 := B.cell 6
  have f_B_6 := B.frozen 6
  have c_B_8 := B.cell 8
  have f_B_8 := B.frozen 8
  have c_B_9 := B.cell 9
  have f_B_9 := B.frozen 9
  have c_B_10 := B.cell 10
  have f_B_10 := B.frozen 10
  have c_B_11 := B.cell 11
  have f_B_11 := B.frozen 11
  have c_B_12 := B.cell 12
  have f_B_12 := B.frozen 12
  have c_B_13 := B.cell 13
  have f_B_13 := B.frozen 13
  have l_B := B.lt
  simp only [List.getElem?_cons_zero, List.getElem?_cons_succ] at c_B_6 c_B_8 c_B_9 c_B_10 c_B_11 c_B_12 c_B_13
  go_wp2_with (fail)
  have ne_z_a_b2 : z.a ≠ w.heap.size := by have h_ := B.lt; omega
  have ne_z_q_b2 : z.q ≠ w.heap.size := by have h_ := hq.lt; omega
  have ne_z_qr_b2 : z.qr ≠ w.heap.size := by have h_ := hq.lt; omega
  have ne_z_qp_b2 : z.qp ≠ w.heap.size := by have h_ := hq.lt; omega
  have ne_z_j_b2 : z.j ≠ w.heap.size := by have h_ := hj.lt; omega
  have ne_z_jr_b2 : z.jr ≠ w.heap.size := by have h_ := hj.lt; omega
  have ne_z_jp_b2 : z.jp ≠ w.heap.size := by have h_ := hj.lt; omega
  have fr_b2 : w.heap.size ≤ w.heap.size := by have h_ := K.size; omega
  have ne_z_a_b3 : z.a ≠ (w.heap.size + 1) := by have h_ := B.lt; omega
  have ne_z_q_b3 : z.q ≠ (w.heap.size + 1) := by have h_ := hq.lt; omega
  have ne_z_qr_b3 : z.qr ≠ (w.heap.size + 1) := by have h_ := hq.lt; omega
  have ne_z_qp_b3 : z.qp ≠ (w.heap.size + 1) := by have h_ := hq.lt; omega
  have ne_z_j_b3 : z.j ≠ (w.heap.size + 1) := by have h_ := hj.lt; omega
  have ne_z_jr_b3 : z.jr ≠ (w.heap.size + 1) := by have h_ := hj.lt; omega
  have ne_z_jp_b3 : z.jp ≠ (w.heap.size + 1) := by have h_ := hj.lt; omega
  have fr_b3 : w.heap.size ≤ (w.heap.size + 1) := by have h_ := K.size; omega
  have ne_b2_b3 : w.heap.size ≠ (w.heap.size + 1) := by omega
  refine calls_at (fun W => Blk W z.a 116 [.int .u64 s.ra, .int .u64 s.de, .int .u64 s.ji, .int .u64 s.bu, .int .u64 s.now, .pointer (some ⟨z.b, 0, none⟩), .pointer (some ⟨z.q, 0, none⟩), .pointer (some ⟨z.j, 0, none⟩), .int .u64 s.came, .int .u64 0, .int .u64 0, .int .u64 s.served, .int .u64 0, .int .u64 s.delivered] ∧ QueAt W z.q z.qr z.qp s.Q ∧ JbxAt W z.j z.jr z.jp s.J ∧ Keeps [] w W ∧ Blk W w.heap.size 44 [.int .u64 0, .int .u64 0, .int .u64 0, .int .u64 0, .int .u64 0, .int .u64 0] ∧ Blk W (w.heap.size + 1) 44 [.int .u64 s.came, .int .u64 0, .int .u64 0, .int .u64 s.served, .int .u64 0, .int .u64 s.delivered]) (by
    refine ⟨?_, ?_, ?_, ?_, ?_, ?_⟩
    · exact (by (repeat (first | with_reducible exact B | with_reducible apply Blk.drew | with_reducible apply Blk.drewN | with_reducible refine Blk.newAt (by simp; done) | with_reducible apply Blk.alloc | with_reducible apply Blk.set2 | with_reducible apply Blk.far)); (all_goals (first | rfl | assumption | (exact Ne.symm (by assumption)) | (simp; done) | (simp; omega) | omega)))
    · exact (hq.keeps (bs := []) (by (repeat (first | with_reducible exact (Keeps.refl _ _) | with_reducible apply Keeps.drew | with_reducible apply Keeps.drewN | with_reducible apply Keeps.alloc | with_reducible apply Keeps.set_)); (all_goals (first | (left; simp; done) | (right; simp; done) | (right; simp; omega) | (right; omega)))) (List.not_mem_nil) (List.not_mem_nil) (List.not_mem_nil))
    · exact (hj.keeps (bs := []) (by (repeat (first | with_reducible exact (Keeps.refl _ _) | with_reducible apply Keeps.drew | with_reducible apply Keeps.drewN | with_reducible apply Keeps.alloc | with_reducible apply Keeps.set_)); (all_goals (first | (left; simp; done) | (right; simp; done) | (right; simp; omega) | (right; omega)))) (List.not_mem_nil) (List.not_mem_nil) (List.not_mem_nil))
    · exact (by (repeat (first | with_reducible exact K | with_reducible apply Keeps.drew | with_reducible apply Keeps.drewN | with_reducible apply Keeps.alloc | with_reducible apply Keeps.set_)); (all_goals (first | (left; simp; done) | (right; assumption) | (right; simp; done) | (right; simp; omega) | (right; omega))))
    · exact (by (repeat (first | with_reducible refine Blk.newAt (by simp; done) | with_reducible apply Blk.drew | with_reducible apply Blk.drewN | with_reducible apply Blk.alloc | with_reducible apply Blk.set2 | with_reducible apply Blk.far)); (all_goals (first | rfl | assumption | (simp; done) | (simp; omega) | omega)))
    · exact (by (repeat (first | with_reducible refine Blk.newAt (by simp; done) | with_reducible apply Blk.drew | with_reducible apply Blk.drewN | with_reducible apply Blk.alloc | with_reducible apply Blk.set2 | with_reducible apply Blk.far)); (all_goals (first | rfl | assumption | (simp; done) | (simp; omega) | omega)))) ?_
  clear c_B_6 f_B_6 c_B_8 f_B_8 c_B_9 f_B_9 c_B_10 f_B_10 c_B_11 f_B_11 c_B_12 f_B_12 c_B_13 f_B_13 l_B
  clear B hq hj K
  rintro W1 ⟨B, hq, hj, K, T2, T3⟩
  generalize hb_b3 : (w.heap.size + 1) = b3 at *
  generalize hb_b2 : w.heap.size = b2 at *
  refine (que_dropped z.q z.qr z.qp s.Q W1 hq).mono ?_
  rintro e w2 ⟨rfl, hk⟩
  replace B := (Blk.keeps B hk (List.not_mem_nil))
  replace hq := (hq.keeps hk (List.not_mem_nil) (List.not_mem_nil) (List.not_mem_nil))
  replace hj := (hj.keeps hk (List.not_mem_nil) (List.not_mem_nil) (List.not_mem_nil))
  replace K := (Keeps.trans K hk al_nil)
  replace T2 := (Blk.keeps T2 hk (List.not_mem_nil))
  replace T3 := (Blk.keeps T3 hk (List.not_mem_nil))
  clear hk
  have c_B_6 := B.cell 6
  have f_B_6 := B.frozen 6
  have l_B := B.lt
  simp only [List.getElem?_cons_zero, List.getElem?_cons_succ] at c_B_6
  have c_T3_1 := T3.cell 1
  have f_T3_1 := T3.frozen 1
  have l_T3 := T3.lt
  simp only [List.getElem?_cons_zero, List.getElem?_cons_succ] at c_T3_1
  go_wp2_with (fail)
  refine calls_at (fun W => Blk W z.a 116 [.int .u64 s.ra, .int .u64 s.de, .int .u64 s.ji, .int .u64 s.bu, .int .u64 s.now, .pointer (some ⟨z.b, 0, none⟩), .pointer (some ⟨z.q, 0, none⟩), .pointer (some ⟨z.j, 0, none⟩), .int .u64 s.came, .int .u64 0, .int .u64 0, .int .u64 s.served, .int .u64 0, .int .u64 s.delivered] ∧ QueAt W z.q z.qr z.qp s.Q ∧ JbxAt W z.j z.jr z.jp s.J ∧ Keeps [] w W ∧ Blk W b2 44 [.int .u64 0, .int .u64 0, .int .u64 0, .int .u64 0, .int .u64 0, .int .u64 0] ∧ Blk W b3 44 [.int .u64 s.came, .int .u64 s.Q.gone, .int .u64 0, .int .u64 s.served, .int .u64 0, .int .u64 s.delivered]) (by
    refine ⟨?_, ?_, ?_, ?_, ?_, ?_⟩
    · exact (by (repeat (first | with_reducible exact B | with_reducible apply Blk.drew | with_reducible apply Blk.drewN | with_reducible refine Blk.newAt (by simp; done) | with_reducible apply Blk.alloc | with_reducible apply Blk.set2 | with_reducible apply Blk.far)); (all_goals (first | rfl | assumption | (exact Ne.symm (by assumption)) | (simp; done) | (simp; omega) | omega)))
    · exact (hq.keeps (bs := [b3]) (by (repeat (first | with_reducible exact (Keeps.refl _ _) | with_reducible apply Keeps.drew | with_reducible apply Keeps.drewN | with_reducible apply Keeps.alloc | with_reducible apply Keeps.set_)); (all_goals (first | (left; simp; done) | (right; simp; done) | (right; simp; omega) | (right; omega)))) ((nm_cons (ne_z_q_b3) List.not_mem_nil)) ((nm_cons (ne_z_qr_b3) List.not_mem_nil)) ((nm_cons (ne_z_qp_b3) List.not_mem_nil)))
    · exact (hj.keeps (bs := [b3]) (by (repeat (first | with_reducible exact (Keeps.refl _ _) | with_reducible apply Keeps.drew | with_reducible apply Keeps.drewN | with_reducible apply Keeps.alloc | with_reducible apply Keeps.set_)); (all_goals (first | (left; simp; done) | (right; simp; done) | (right; simp; omega) | (right; omega)))) ((nm_cons (ne_z_j_b3) List.not_mem_nil)) ((nm_cons (ne_z_jr_b3) List.not_mem_nil)) ((nm_cons (ne_z_jp_b3) List.not_mem_nil)))
    · exact (by (repeat (first | with_reducible exact K | with_reducible apply Keeps.drew | with_reducible apply Keeps.drewN | with_reducible apply Keeps.alloc | with_reducible apply Keeps.set_)); (all_goals (first | (left; simp; done) | (right; assumption) | (right; simp; done) | (right; simp; omega) | (right; omega))))
    · exact (by (repeat (first | with_reducible exact T2 | with_reducible apply Blk.drew | with_reducible apply Blk.drewN | with_reducible refine Blk.newAt (by simp; done) | with_reducible apply Blk.alloc | with_reducible apply Blk.set2 | with_reducible apply Blk.far)); (all_goals (first | rfl | assumption | (exact Ne.symm (by assumption)) | (simp; done) | (simp; omega) | omega)))
    · exact (by (repeat (first | with_reducible exact T3 | with_reducible apply Blk.drew | with_reducible apply Blk.drewN | with_reducible refine Blk.newAt (by simp; done) | with_reducible apply Blk.alloc | with_reducible apply Blk.set2 | with_reducible apply Blk.far)); (all_goals (first | rfl | assumption | (exact Ne.symm (by assumption)) | (simp; done) | (simp; omega) | omega)))) ?_
  clear c_B_6 f_B_6 l_B c_T3_1 f_T3_1 l_T3
  clear B hq hj K T2 T3
  rintro W2 ⟨B, hq, hj, K, T2, T3⟩
  refine (que_bytes z.q z.qr z.qp s.Q W2 hq).mono ?_
  rintro e w_ ⟨rfl, hw_⟩
  obtain rfl := hw_.symm
  have c_B_7 := B.cell 7
  have f_B_7 := B.frozen 7
  have l_B := B.lt
  simp only [List.getElem?_cons_zero, List.getElem?_cons_succ] at c_B_7
  have c_T3_2 := T3.cell 2
  have f_T3_2 := T3.frozen 2
  have l_T3 := T3.lt
  simp only [List.getElem?_cons_zero, List.getElem?_cons_succ] at c_T3_2
  go_wp2_with (fail)
  refine calls_at (fun W => Blk W z.a 116 [.int .u64 s.ra, .int .u64 s.de, .int .u64 s.ji, .int .u64 s.bu, .int .u64 s.now, .pointer (some ⟨z.b, 0, none⟩), .pointer (some ⟨z.q, 0, none⟩), .pointer (some ⟨z.j, 0, none⟩), .int .u64 s.came, .int .u64 0, .int .u64 0, .int .u64 s.served, .int .u64 0, .int .u64 s.delivered] ∧ QueAt W z.q z.qr z.qp s.Q ∧ JbxAt W z.j z.jr z.jp s.J ∧ Keeps [] w W ∧ Blk W b2 44 [.int .u64 0, .int .u64 0, .int .u64 0, .int .u64 0, .int .u64 0, .int .u64 0] ∧ Blk W b3 44 [.int .u64 s.came, .int .u64 s.Q.gone, .int .u64 s.Q.bytes, .int .u64 s.served, .int .u64 0, .int .u64 s.delivered]) (by
    refine ⟨?_, ?_, ?_, ?_, ?_, ?_⟩
    · exact (by (repeat (first | with_reducible exact B | with_reducible apply Blk.drew | with_reducible apply Blk.drewN | with_reducible refine Blk.newAt (by simp; done) | with_reducible apply Blk.alloc | with_reducible apply Blk.set2 | with_reducible apply Blk.far)); (all_goals (first | rfl | assumption | (exact Ne.symm (by assumption)) | (simp; done) | (simp; omega) | omega)))
    · exact (hq.keeps (bs := [b3]) (by (repeat (first | with_reducible exact (Keeps.refl _ _) | with_reducible apply Keeps.drew | with_reducible apply Keeps.drewN | with_reducible apply Keeps.alloc | with_reducible apply Keeps.set_)); (all_goals (first | (left; simp; done) | (right; simp; done) | (right; simp; omega) | (right; omega)))) ((nm_cons (ne_z_q_b3) List.not_mem_nil)) ((nm_cons (ne_z_qr_b3) List.not_mem_nil)) ((nm_cons (ne_z_qp_b3) List.not_mem_nil)))
    · exact (hj.keeps (bs := [b3]) (by (repeat (first | with_reducible exact (Keeps.refl _ _) | with_reducible apply Keeps.drew | with_reducible apply Keeps.drewN | with_reducible apply Keeps.alloc | with_reducible apply Keeps.set_)); (all_goals (first | (left; simp; done) | (right; simp; done) | (right; simp; omega) | (right; omega)))) ((nm_cons (ne_z_j_b3) List.not_mem_nil)) ((nm_cons (ne_z_jr_b3) List.not_mem_nil)) ((nm_cons (ne_z_jp_b3) List.not_mem_nil)))
    · exact (by (repeat (first | with_reducible exact K | with_reducible apply Keeps.drew | with_reducible apply Keeps.drewN | with_reducible apply Keeps.alloc | with_reducible apply Keeps.set_)); (all_goals (first | (left; simp; done) | (right; assumption) | (right; simp; done) | (right; simp; omega) | (right; omega))))
    · exact (by (repeat (first | with_reducible exact T2 | with_reducible apply Blk.drew | with_reducible apply Blk.drewN | with_reducible refine Blk.newAt (by simp; done) | with_reducible apply Blk.alloc | with_reducible apply Blk.set2 | with_reducible apply Blk.far)); (all_goals (first | rfl | assumption | (exact Ne.symm (by assumption)) | (simp; done) | (simp; omega) | omega)))
    · exact (by (repeat (first | with_reducible exact T3 | with_reducible apply Blk.drew | with_reducible apply Blk.drewN | with_reducible refine Blk.newAt (by simp; done) | with_reducible apply Blk.alloc | with_reducible apply Blk.set2 | with_reducible apply Blk.far)); (all_goals (first | rfl | assumption | (exact Ne.symm (by assumption)) | (simp; done) | (simp; omega) | omega)))) ?_
  clear c_B_7 f_B_7 l_B c_T3_2 f_T3_2 l_T3
  clear B hq hj K T2 T3
  rintro W3 ⟨B, hq, hj, K, T2, T3⟩
  refine (jbx_all z.j z.jr z.jp s.J W3 hj (by omega)).mono ?_
  rintro e w4 ⟨o, rfl, R, hf, hk⟩
  replace B := (Blk.keeps B hk (List.not_mem_nil))
  replace hq := (hq.keeps hk (List.not_mem_nil) (List.not_mem_nil) (List.not_mem_nil))
  replace hj := (hj.keeps hk (List.not_mem_nil) (List.not_mem_nil) (List.not_mem_nil))
  replace K := (Keeps.trans K hk al_nil)
  replace T2 := (Blk.keeps T2 hk (List.not_mem_nil))
  replace T3 := (Blk.keeps T3 hk (List.not_mem_nil))
  clear hk
  obtain ⟨A, cap, rfl⟩ := R.formN (n := s.J.xs.length) (by simp)
  have hfo : ∀ c, (Value.slice A s.J.xs.length cap).ownBlock = some c → c ≠ b3 := by
    intro c hc
    have e1 := R.type T3 (by decide)
    rintro rfl
    exact e1 hc
  go_wp2_with (fail)
  have hus : ∀ x ∈ s.J.xs.map (·.p.size), U64 x := by
    intro x hx
    obtain ⟨d, hd, rfl⟩ := List.mem_map.1 hx
    exact (ok.js d hd).1
  clear B hq hj hf
  go_loopw [34] (fun i wx => ∃ k : Nat, k ≤ s.J.xs.length ∧ i = .int .i64 k ∧ Blk wx b3 44 [.int .u64 s.came, .int .u64 s.Q.gone, .int .u64 s.Q.bytes, .int .u64 s.served, .int .u64 (sadd 0 ((s.J.xs.map (·.p.size)).take k)), .int .u64 s.delivered] ∧ Keeps [b3] w4 wx) (fun i _ => s.J.xs.length - (intOf i).toNat)
  case atStart => exact ⟨0, Nat.zero_le _, rfl, by simpa [sadd] using T3, Keeps.refl _ _⟩
  case round =>
    obtain ⟨k, hk, rfl, Tx, Kx⟩ := hrel
    have Rr := R.keeps Kx (by intro c hc; simp; exact hfo c hc)
    by_cases hlt : k < s.J.xs.length
    · obtain ⟨g, rfl⟩ := Rr.addr (by simp; omega)
      have hxk : (s.J.xs.map (·.p.cells))[k]? = some (s.J.xs[k]).p.cells := by simp [hlt]
      have y := fun j hj => Rr.at_ (j := j) hxk hj
      have y0 := y 0 (by decide)
      have y1 := y 1 (by decide)
      have y2 := y 2 (by decide)
      have y3 := y 3 (by decide)
      have y4 := y 4 (by decide)
      have y5 := y 5 (by decide)
      have y6 := y 6 (by decide)
      simp only [Pkt.cells, List.getElem?_cons_zero, List.getElem?_cons_succ, Nat.add_zero] at y0 y1 y2 y3 y4 y5 y6
      have hlt' : (k : Int) < s.J.xs.length := by omega
      have hp0 : U64 (s.J.xs[k]).p.size := hus _ (by simp; exact ⟨_, List.getElem_mem hlt, rfl⟩)
      have hs2 : Hid (sadd 0 ((s.J.xs.map (·.p.size)).take (k + 1)) = sat (sadd 0 ((s.J.xs.map (·.p.size)).take k) + (s.J.xs[k]).p.size)) := by
        show _ = _
        rw [sadd_take _ _ _ (by simpa using hlt)]; simp
      have hud : U64 (sadd 0 ((s.J.xs.map (·.p.size)).take k)) := sadd_u _ _ ⟨by decide, by decide⟩ (fun x hx => hus x (List.mem_of_mem_take hx))
      clear y hxk Rr R hfo hus T2 T3 K
      generalize sadd 0 ((s.J.xs.map (·.p.size)).take k) = uk at *
      generalize (s.J.xs[k]).p = p at *
      have x4 := Tx.cell 4
      have hlx := Tx.lt
      have fx := Tx.frozen 4
      simp only [List.getElem?_cons_zero, List.getElem?_cons_succ] at x4
      go_wp2_with (fail)
      refine (add2 (wr.heap.size + 1) uk p.size _ hud hp0 _ (Blk.newAt (by simp))).mono ?_
      rintro e w5 ⟨rfl, rfl⟩
      go_wp2_with (fail)
      have hb3' : b3 ≠ wr.heap.size := by omega
      have B5 : Blk wr b3 44 [.int .u64 s.came, .int .u64 s.Q.gone, .int .u64 s.Q.bytes, .int .u64 s.served, .int .u64 uk, .int .u64 s.delivered] := Tx
      clear ne_z_a_b2 ne_z_q_b2 ne_z_qr_b2 ne_z_qp_b2 ne_z_j_b2 ne_z_jr_b2 ne_z_jp_b2 ne_z_a_b3 ne_z_q_b3 ne_z_qr_b3 ne_z_qp_b3 ne_z_j_b3 ne_z_jr_b3 ne_z_jp_b3
      go_roundw
      case rel => exact ⟨k + 1, by omega, by go_num, by rw [hs2.out]; exact (by (repeat (first | with_reducible exact B5 | with_reducible apply Blk.drew | with_reducible apply Blk.drewN | with_reducible refine Blk.newAt (by simp; done) | with_reducible apply Blk.alloc | with_reducible apply Blk.set2 | with_reducible apply Blk.far)); (all_goals (first | rfl | assumption | (simp; done) | (simp; omega) | omega))), (by (repeat (first | with_reducible exact Kx | with_reducible apply Keeps.drew | with_reducible apply Keeps.drewN | with_reducible apply Keeps.alloc | with_reducible apply Keeps.set_)); (all_goals (first | (left; simp; done) | (right; simp; done) | (right; simp; omega) | (right; omega))))⟩
      case measure => simp [intOf]; omega
    · obtain rfl : k = s.J.xs.length := by omega
      rw [List.take_of_length_le (by simp)] at Tx
      have T2x := T2.keeps Kx (by simp; exact ne_b2_b3)
      have x0 := Tx.cell 0
      have x1 := Tx.cell 1
      have x2 := Tx.cell 2
      have x3 := Tx.cell 3
      have x4 := Tx.cell 4
      have x5 := Tx.cell 5
      have y0 := T2x.cell 0
      have y1 := T2x.cell 1
      have y2 := T2x.cell 2
      have y3 := T2x.cell 3
      have y4 := T2x.cell 4
      have y5 := T2x.cell 5
      have f0 := T2x.frozen 0
      have f1 := T2x.frozen 1
      have f2 := T2x.frozen 2
      have f3 := T2x.frozen 3
      have f4 := T2x.frozen 4
      have f5 := T2x.frozen 5
      simp only [List.getElem?_cons_zero, List.getElem?_cons_succ] at x0 x1 x2 x3 x4 x5 y0 y1 y2 y3 y4 y5
      go_wp2_with (fail)
      refine bodyPost_ret (v := s.count) (by simp [results, Try.results19, go_sem, Lnk.count, Lnk.under, y0, y1, y2, y3, y4, y5]) rfl ⟨rfl, ?_⟩
      have K7 : Keeps [] w wr := K.trans Kx (al_cons (.inr (by rw [hb_b2]; exact fr_b3)) al_nil)
      exact (by (repeat (first | with_reducible exact K7 | with_reducible apply Keeps.drew | with_reducible apply Keeps.drewN | with_reducible apply Keeps.alloc | with_reducible apply Keeps.set_)); (all_goals (first | (left; simp; done) | (right; simp; done) | (right; simp; omega) | (right; omega))))
end Go.Proofs.Ytjnojomfaikfjaa
