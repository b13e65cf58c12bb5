/- link.Link: Tick. -/
import Derived.Test.YtjnojomfaikfjaaLinkD
namespace Go.Proofs.Ytjnojomfaikfjaa
set_option linter.unusedSimpArgs false
set_option linter.unusedVariables false
open Go.RowKit Go.Proofs.YtjnojomfaikfjaaW.PrintLast
theorem lnk_tick_nil (t ws : Int) (v : Value) (w : World) : Calls Try.prog 15 #[.pointer none, .int .u64 t, .int .u64 ws, v] w fun e w' => e = .returned (.tuple #[.slice none 0 0, .int .i64 1]) ∧ w' = w := by
  go_enter Try.func15, Try.ntmps15
  go_wp2
  go_ret2
  exact ⟨rfl, rfl⟩
theorem lnk_tick_back (z : LA) (s : Lnk) (t ws : Int) (v : Value) (w : World) (h : LnkAt w z s) (ht : t < s.now) : Calls Try.prog 15 #[.pointer (some ⟨z.a, 0, none⟩), .int .u64 t, .int .u64 ws, v] w fun e w' => e = .returned (.tuple #[.slice none 0 0, .int .i64 2]) ∧ w' = w := by
  have g4 := h.blk.cell 4
  simp only [List.getElem?_cons_zero, List.getElem?_cons_succ] at g4
  go_enter Try.func15, Try.ntmps15
  go_wp2
  go_ret2
  exact ⟨rfl, rfl⟩
set_option maxHeartbeats 16000000 in
set_option maxRecDepth 100000 in
theorem lnk_tick (z : LA) (s : Lnk) (t ws : Int) (cs : List Int) (v : Value) (n : Nat) (w : World) (h : LnkAt w z s) (ok : s.Ok n) (hn : n ≤ 900000) (ht : s.now ≤ t) (ut : U64 t) (uw : U64 ws) (hcs : ∀ c ∈ cs, U64 c) (C : ChAt w v cs z.all) :
    Calls Try.prog 15 #[.pointer (some ⟨z.a, 0, none⟩), .int .u64 t, .int .u64 ws, v] w fun e w' => ∃ o, e = .returned (.tuple #[o, .int .i64 0]) ∧ Row w' 73 7 o ((s.ticks t ws cs).map Pkt.cells) ∧ (∀ c, o.ownBlock = some c → w.heap.size ≤ c) ∧ (∃ jp, LnkAt w' (z.withJ jp) (s.tick t ws cs) ∧ (jp = z.jp ∨ w.heap.size ≤ jp)) ∧ Keeps z.all w w' := by
  have okt := ok.to ht ut
  have ok1 := ok.tick1 ht ut hcs
  obtain ⟨ap, hq, hj, hb⟩ : z.Apart ∧ QueAt w z.q z.qr z.qp s.Q ∧ JbxAt w z.j z.jr z.jp s.J ∧ BktAt w z.b s.B := ⟨h.apart, h.hq, h.hj, h.hb⟩
  have B : Blk w z.a 116 [.int .u64 s.ra, .int .u64 s.de, .int .u64 s.ji, .int .u64 s.bu, .int .u64 s.now, .pointer (some ⟨z.b, 0, none⟩), .pointer (some ⟨z.q, 0, none⟩), .pointer (some ⟨z.j, 0, none⟩), .int .u64 s.came, .int .u64 0, .int .u64 0, .int .u64 s.served, .int .u64 0, .int .u64 s.delivered] := h.blk
  have okb : s.B.ok := ⟨ok.tok, ok.was, ok.rate, by rw [ok.bnow]; exact ok.now⟩
  clear h
  go_enter Try.func15, Try.ntmps15
  have K : Keeps [z.a, z.b, z.q, z.qr, z.qp, z.j, z.jr, z.jp] w w := Keeps.refl _ _
  have c_B_2 := B.cell 2
  have f_B_2 := B.frozen 2
  have c_B_4 := B.cell 4
  have f_B_4 := B.frozen 4
  have c_B_5 := B.cell 5
  have f_B_5 := B.frozen 5
  have l_B := B.lt
  simp only [List.getElem?_cons_zero, List.getElem?_cons_succ] at c_B_2 c_B_4 c_B_5
  go_wp2_with (fail)
  refine calls_at (fun W => Blk W z.a 116 [.int .u64 s.ra, .int .u64 s.de, .int .u64 s.ji, .int .u64 s.bu, .int .u64 t, .pointer (some ⟨z.b, 0, none⟩), .pointer (some ⟨z.q, 0, none⟩), .pointer (some ⟨z.j, 0, none⟩), .int .u64 s.came, .int .u64 0, .int .u64 0, .int .u64 s.served, .int .u64 0, .int .u64 s.delivered] ∧ BktAt W z.b s.B ∧ QueAt W z.q z.qr z.qp s.Q ∧ JbxAt W z.j z.jr z.jp s.J ∧ Keeps [z.a, z.b, z.q, z.qr, z.qp, z.j, z.jr, z.jp] w W) (by
    refine ⟨?_, ?_, ?_, ?_, ?_⟩
    · exact (by (repeat (first | with_reducible exact B | with_reducible apply Blk.drew | with_reducible apply Blk.drewN | with_reducible refine Blk.newAt (by simp; done) | with_reducible apply Blk.alloc | with_reducible apply Blk.set2 | with_reducible apply Blk.far)); (all_goals (first | rfl | assumption | (exact Ne.symm (by assumption)) | (simp; done) | (simp; omega) | omega)))
    · exact (hb.keeps (bs := [z.a]) (by (repeat (first | with_reducible exact (Keeps.refl _ _) | with_reducible apply Keeps.drew | with_reducible apply Keeps.drewN | with_reducible apply Keeps.alloc | with_reducible apply Keeps.set_)); (all_goals (first | (left; simp; done) | (right; simp; done) | (right; simp; omega) | (right; omega)))) ((nm_cons (Ne.symm (ap.n01)) List.not_mem_nil)))
    · exact (hq.keeps (bs := [z.a]) (by (repeat (first | with_reducible exact (Keeps.refl _ _) | with_reducible apply Keeps.drew | with_reducible apply Keeps.drewN | with_reducible apply Keeps.alloc | with_reducible apply Keeps.set_)); (all_goals (first | (left; simp; done) | (right; simp; done) | (right; simp; omega) | (right; omega)))) ((nm_cons (Ne.symm (ap.n02)) List.not_mem_nil)) ((nm_cons (Ne.symm (ap.n03)) List.not_mem_nil)) ((nm_cons (Ne.symm (ap.n04)) List.not_mem_nil)))
    · exact (hj.keeps (bs := [z.a]) (by (repeat (first | with_reducible exact (Keeps.refl _ _) | with_reducible apply Keeps.drew | with_reducible apply Keeps.drewN | with_reducible apply Keeps.alloc | with_reducible apply Keeps.set_)); (all_goals (first | (left; simp; done) | (right; simp; done) | (right; simp; omega) | (right; omega)))) ((nm_cons (Ne.symm (ap.n05)) List.not_mem_nil)) ((nm_cons (Ne.symm (ap.n06)) List.not_mem_nil)) ((nm_cons (Ne.symm (ap.n07)) List.not_mem_nil)))
    · exact (by (repeat (first | with_reducible exact K | with_reducible apply Keeps.drew | with_reducible apply Keeps.drewN | with_reducible apply Keeps.alloc | with_reducible apply Keeps.set_)); (all_goals (first | (left; simp; done) | (right; assumption) | (right; simp; done) | (right; simp; omega) | (right; omega))))) ?_
  clear c_B_2 f_B_2 c_B_4 f_B_4 c_B_5 f_B_5 l_B
  clear B hb hq hj K
  rintro W1 ⟨B, hb, hq, hj, K⟩
  have C1 := C.keeps K (al_cons (.inl (by simp [LA.all])) (al_cons (.inl (by simp [LA.all])) (al_cons (.inl (by simp [LA.all])) (al_cons (.inl (by simp [LA.all])) (al_cons (.inl (by simp [LA.all])) (al_cons (.inl (by simp [LA.all])) (al_cons (.inl (by simp [LA.all])) (al_cons (.inl (by simp [LA.all])) al_nil))))))))
  refine (bkt_to z.b s.B t W1 hb okb ut).mono ?_
  rintro e w2 ⟨rfl, hb2, hk⟩
  replace B := (Blk.keeps B hk ((nm_cons (ap.n01) List.not_mem_nil)))
  replace hq := (hq.keeps hk ((nm_cons (Ne.symm (ap.n12)) List.not_mem_nil)) ((nm_cons (Ne.symm (ap.n13)) List.not_mem_nil)) ((nm_cons (Ne.symm (ap.n14)) List.not_mem_nil)))
  replace hj := (hj.keeps hk ((nm_cons (Ne.symm (ap.n15)) List.not_mem_nil)) ((nm_cons (Ne.symm (ap.n16)) List.not_mem_nil)) ((nm_cons (Ne.symm (ap.n17)) List.not_mem_nil)))
  replace K := (Keeps.trans K hk (al_cons (.inl (by simp)) al_nil))
  clear hb
  clear hk
  have C2 := C.keeps K (al_cons (.inl (by simp [LA.all])) (al_cons (.inl (by simp [LA.all])) (al_cons (.inl (by simp [LA.all])) (al_cons (.inl (by simp [LA.all])) (al_cons (.inl (by simp [LA.all])) (al_cons (.inl (by simp [LA.all])) (al_cons (.inl (by simp [LA.all])) (al_cons (.inl (by simp [LA.all])) al_nil))))))))
  have H2 : LnkAt w2 z ({ s with now := t, B := s.B.to t } : Lnk) := ⟨B, hb2, hq, hj⟩
  clear C1 B hb2 hq hj
  have K2 : Keeps z.all w w2 := K
  clear K
  go_wp2_with (fail)
  refine (lnk_serve z _ cs v n w2 H2 okt hn hcs C2).mono ?_
  rintro e w3 ⟨rfl, ⟨jp, H3, hjp3⟩, k3⟩
  have hjp : jp = z.jp ∨ w.heap.size ≤ jp := by
    rcases hjp3 with h' | h'
    · exact .inl h'
    · right; exact Nat.le_trans K2.size h'
  have K3 : Keeps z.all w w3 := K2.trans k3 (by intro c hc; exact .inl hc)
  replace H3 : LnkAt w3 (z.withJ jp) (s.tick1 t cs) := H3
  have hnow : (s.tick1 t cs).now = t := by
    have sn : ∀ (l : List Pkt) (cs : List Int) (s : Lnk), (s.serve l cs).now = s.now := by
      intro l
      induction l with
      | nil => exact fun _ _ => rfl
      | cons p l ih =>
        intro cs s
        rw [Lnk.serve]
        split
        · exact ih _ _
        · rfl
    exact sn _ _ _
  obtain ⟨s3, hs3⟩ : ∃ s3, Hid (s3 = s.tick1 t cs) := ⟨_, rfl⟩
  rw [← hs3.out] at H3 ok1 hnow
  clear H2 C2 k3 K2 okb okt hjp3 C ap hcs ok ht
  replace hnow : Hid _ := hnow
  cases hx : s3.Q.xs with
  | nil =>
    have c6 := H3.blk.cell 6
    have c5 := H3.blk.cell 5
    simp only [LA.withJ, List.getElem?_cons_zero, List.getElem?_cons_succ] at c6 c5
    have hhd := que_head_no z.q z.qr z.qp s3.Q w3 H3.hq hx
    go_wp2_with (fail)
    refine hhd.mono ?_
    rintro e w4 ⟨rfl, hk⟩
    clear hhd c6 c5
    have ka : Keeps [] w4 (w4.alloc (.cells #[.int .u64 0, .int .u64 0, .int .u64 0, .int .u64 0, .int .u64 0, .int .u64 0, .bool false] 73)) := (Keeps.refl [] w4).alloc _
    have H4 := (H3.keeps0 hk).keeps0 ka
    have K4 := (K3.trans hk (by simp)).trans ka (by simp)
    clear H3 K3 hk
    have c5 := H4.blk.cell 5
    simp only [LA.withJ, List.getElem?_cons_zero, List.getElem?_cons_succ] at c5
    obtain ⟨ap, hq, hj, hb⟩ : (z.withJ jp).Apart ∧ QueAt _ z.q z.qr z.qp s3.Q ∧ JbxAt _ z.j z.jr jp s3.J ∧ BktAt _ z.b s3.B := ⟨H4.apart, H4.hq, H4.hj, H4.hb⟩
    have hwst := bkt_waste z.b s3.B ws _ hb ⟨ok1.tok, ok1.was, ok1.rate, by rw [ok1.bnow]; exact ok1.now⟩ uw
    go_wp2_with (fail)
    refine hwst.mono ?_
    rintro e wn ⟨rfl, hb5, k5⟩
    have okw := ok1.wastes uw
    have es : s3.wastes ws = { s3 with B := s3.B.waste ws } := by unfold Lnk.wastes; rw [if_pos hx]
    have H5 : LnkAt wn (z.withJ jp) (s3.wastes ws) := by
      rw [es]
      exact ⟨H4.blk.keeps k5 (nm_cons ap.n01 List.not_mem_nil), hb5, hq.keeps k5 (nm_cons ap.n12.symm List.not_mem_nil) (nm_cons ap.n13.symm List.not_mem_nil) (nm_cons ap.n14.symm List.not_mem_nil), hj.keeps k5 (nm_cons ap.n15.symm List.not_mem_nil) (nm_cons ap.n16.symm List.not_mem_nil) (nm_cons ap.n17.symm List.not_mem_nil)⟩
    have K6 := K4.trans k5 (al_cons (.inl (by simp [LA.all])) al_nil)
    clear H4 K4 c5 ap hq hj hb hwst hb5 k5 ka es
    obtain ⟨s4, hs4⟩ : ∃ s4, Hid (s4 = s3.wastes ws) := ⟨_, rfl⟩
    rw [← hs4.out] at H5 okw
    have H4 := H5
    have K4 := K6
    have ok4 := okw
    clear H5 K6 okw
    obtain ⟨ap, hq, hj, hb⟩ : (z.withJ jp).Apart ∧ QueAt wn z.q z.qr z.qp s4.Q ∧ JbxAt wn z.j z.jr jp s4.J ∧ BktAt wn z.b s4.B := ⟨H4.apart, H4.hq, H4.hj, H4.hb⟩
    have B : Blk wn z.a 116 [.int .u64 s4.ra, .int .u64 s4.de, .int .u64 s4.ji, .int .u64 s4.bu, .int .u64 s4.now, .pointer (some ⟨z.b, 0, none⟩), .pointer (some ⟨z.q, 0, none⟩), .pointer (some ⟨z.j, 0, none⟩), .int .u64 s4.came, .int .u64 0, .int .u64 0, .int .u64 s4.served, .int .u64 0, .int .u64 s4.delivered] := H4.blk
    have c7 := B.cell 7
    simp only [List.getElem?_cons_zero, List.getElem?_cons_succ] at c7
    go_wp2_with (fail)
    refine (jbx_out z.j z.jr jp s4.J t wn hj (by have := ok4.len; omega)).mono ?_
    rintro e w5 ⟨o, rfl, hj5, R5, f5, k5⟩
    have ub := ok4.outs t
    have hol : ((s4.J.outs t).length : Int) ≤ 900000 := by
      have h1 := ok4.len
      have h2 : (s4.J.outs t).length ≤ s4.J.xs.length := by unfold Jbx.outs; rw [List.length_map]; exact (List.takeWhile_sublist _).length_le
      omega
    have hus : ∀ p ∈ s4.J.outs t, U64 p.size := by
      intro p hp
      unfold Jbx.outs at hp
      obtain ⟨d, hd, rfl⟩ := List.mem_map.1 hp
      exact (ok4.js d ((List.takeWhile_sublist _).subset hd)).1
    have hfo : ∀ c, o.ownBlock = some c → w.heap.size ≤ c ∧ c ≠ z.a := by
      intro c hc
      have h1 := f5 c hc
      have h2 := B.lt
      have h3 := K4.size
      omega
    have B5 := B.keeps k5 (nm_cons ap.n06 (nm_cons ap.n07 List.not_mem_nil))
    have hb5 := hb.keeps k5 (nm_cons ap.n16 (nm_cons ap.n17 List.not_mem_nil))
    have hq5 := hq.keeps k5 (nm_cons ap.n26 (nm_cons ap.n27 List.not_mem_nil)) (nm_cons ap.n36 (nm_cons ap.n37 List.not_mem_nil)) (nm_cons ap.n46 (nm_cons ap.n47 List.not_mem_nil))
    have K5 : Keeps z.all w w5 := K4.trans k5 (al_cons (.inl (by simp [LA.all])) (al_cons (hjp.elim (fun h => .inl (by simp [LA.all, h])) .inr) al_nil))
    clear B hb hq hj k5 c7 H4 K4
    obtain ⟨outs, hot⟩ : ∃ o, Hid (o = s4.J.outs t) := ⟨_, rfl⟩
    rw [← hot.out] at hol hus R5
    have houts : Hid ((s4.outs t) = ({ s4 with J := s4.J.out t, delivered := sadd s4.delivered (outs.map (·.size)) } : Lnk)) := by rw [hot.out]; exact rfl
    obtain ⟨A, cap, rfl⟩ := R5.formN (n := outs.length) (by simp)
    go_wp2_with (fail)
    go_loopw [62] (fun i wx => ∃ k : Nat, k ≤ outs.length ∧ i = .int .i64 k ∧ Blk wx z.a 116 [.int .u64 s4.ra, .int .u64 s4.de, .int .u64 s4.ji, .int .u64 s4.bu, .int .u64 s4.now, .pointer (some ⟨z.b, 0, none⟩), .pointer (some ⟨z.q, 0, none⟩), .pointer (some ⟨z.j, 0, none⟩), .int .u64 s4.came, .int .u64 0, .int .u64 0, .int .u64 s4.served, .int .u64 0, .int .u64 (sadd s4.delivered ((outs.map (·.size)).take k))] ∧ Keeps [z.a] w5 wx) (fun i _ => outs.length - (intOf i).toNat)
    case atStart => exact ⟨0, Nat.zero_le _, rfl, by simpa [sadd] using B5, Keeps.refl _ _⟩
    case round =>
      obtain ⟨k, hk, rfl, B, K⟩ := hrel
      have Rr := R5.keeps K (by intro c hc; simp; exact (hfo c hc).2)
      by_cases hlt : k < outs.length
      · obtain ⟨g, rfl⟩ := Rr.addr (by simp; omega)
        have hxk : (outs.map Pkt.cells)[k]? = some (outs[k]).cells := by simp [hlt]
        have y := fun j hj => Rr.at_ (j := j) hxk hj
        have y0 := y 0 (by decide)
        have y1 := y 1 (by decide)
        have y2 := y 2 (by decide)
        have y3 := y 3 (by decide)
        have y4 := y 4 (by decide)
        have y5 := y 5 (by decide)
        have y6 := y 6 (by decide)
        simp only [Pkt.cells, List.getElem?_cons_zero, List.getElem?_cons_succ, Nat.add_zero] at y0 y1 y2 y3 y4 y5 y6
        have hlt' : (k : Int) < outs.length := by omega
        have hp0 := hus _ (List.getElem_mem hlt)
        have hs2 : Hid (sadd s4.delivered ((outs.map (·.size)).take (k + 1)) = sat (sadd s4.delivered ((outs.map (·.size)).take k) + (outs[k]).size)) := by
          show _ = _
          rw [sadd_take _ _ _ (by simpa using hlt)]; simp
        have hud : U64 (sadd s4.delivered ((outs.map (·.size)).take k)) := sadd_u _ _ ok4.delivered (by
          intro x hx'
          obtain ⟨p, hp, rfl⟩ := List.mem_map.1 (List.mem_of_mem_take hx')
          exact hus p hp)
        clear y hxk Rr
        generalize sadd s4.delivered ((outs.map (·.size)).take k) = dk at *
        generalize outs[k] = p at *
        go_wp2_with (fail)
        have hw5 := K.size
        clear hfo B5 R5
        have hza := B.lt
        have ne_z_a_b7 : z.a ≠ wr.heap.size := by have h_ := B.lt; omega
        have fr_b7 : w5.heap.size ≤ wr.heap.size := by have h_ := K.size; omega
        refine wp_at (fun W => Blk W z.a 116 [.int .u64 s4.ra, .int .u64 s4.de, .int .u64 s4.ji, .int .u64 s4.bu, .int .u64 s4.now, .pointer (some ⟨z.b, 0, none⟩), .pointer (some ⟨z.q, 0, none⟩), .pointer (some ⟨z.j, 0, none⟩), .int .u64 s4.came, .int .u64 0, .int .u64 0, .int .u64 s4.served, .int .u64 0, .int .u64 dk] ∧ Keeps [z.a] w5 W ∧ Blk W wr.heap.size 73 [.int .u64 p.n, .int .u64 p.size, .int .u64 p.sent, .int .u64 p.first, .int .u64 p.del, .int .u64 p.at_, .bool p.lim]) (by
          refine ⟨?_, ?_, ?_⟩
          · exact (by (repeat (first | with_reducible exact B | with_reducible apply Blk.drew | with_reducible apply Blk.drewN | with_reducible refine Blk.newAt (by simp; done) | with_reducible apply Blk.alloc | with_reducible apply Blk.set2 | with_reducible apply Blk.far)); (all_goals (first | rfl | assumption | (exact Ne.symm (by assumption)) | (simp; done) | (simp; omega) | omega)))
          · exact (by (repeat (first | with_reducible exact K | with_reducible apply Keeps.drew | with_reducible apply Keeps.drewN | with_reducible apply Keeps.alloc | with_reducible apply Keeps.set_)); (all_goals (first | (left; simp; done) | (right; assumption) | (right; simp; done) | (right; simp; omega) | (right; omega))))
          · exact (by (repeat (first | with_reducible refine Blk.newAt (by simp; done) | with_reducible apply Blk.drew | with_reducible apply Blk.drewN | with_reducible apply Blk.alloc | with_reducible apply Blk.set2 | with_reducible apply Blk.far)); (all_goals (first | rfl | assumption | (simp; done) | (simp; omega) | omega)))) ?_
        clear B K
        rintro V1 ⟨B, K, T⟩
        generalize hb_b7 : wr.heap.size = b7 at *
        clear y0 y1 y2 y3 y4 y5 y6
        have hl_B := B.lt
        have f_B := fun i => B.frozen i
        have hl_T := T.lt
        have f_T := fun i => T.frozen i
        refine start_ (n := 14) (S := fun w' => Blk w' z.a 116 [.int .u64 s4.ra, .int .u64 s4.de, .int .u64 s4.ji, .int .u64 s4.bu, .int .u64 s4.now, .pointer (some ⟨z.b, 0, none⟩), .pointer (some ⟨z.q, 0, none⟩), .pointer (some ⟨z.j, 0, none⟩), .int .u64 s4.came, .int .u64 0, .int .u64 0, .int .u64 s4.served, .int .u64 0, .int .u64 dk] ∧ Keeps [z.a] w5 w' ∧ Blk w' b7 73 [.int .u64 p.n, .int .u64 p.size, .int .u64 p.sent, .int .u64 p.first, .int .u64 p.del, .int .u64 p.at_, .bool p.lim] ∧ w'.cell? ⟨z.a, 13, none⟩ = some (.int .u64 dk) ∧ w'.cell? ⟨b7, 1, none⟩ = some (.int .u64 p.size)) (ds := [13]) #[false, false, false, false, false, false, false, false, false, false, false, false, false, false] (by kernel_rfl) rfl rfl ⟨(Blk.drew B), (Keeps.drew K), (Blk.drew T), ((Blk.cell (Blk.drew B) 13).trans rfl), ((Blk.cell (Blk.drew T) 1).trans rfl)⟩ (fun hHeld => ?_)
        refine pure_ (i := 0) (N := some 66) (v := ?_) (a' := ?_) #[true, false, false, false, false, false, false, false, false, false, false, false, false, false] rfl rfl (by kernel_rfl) (fun _ _ _ h => h) (Or.inl ⟨by rfl, ?_⟩) ?_ ?_
        rotate_left
        · intro w'
          go_simp
          with_reducible rfl
        rotate_left
        · simp only [Act.put, List.setIfInBounds_toArray, List.set_cons_zero, List.set_cons_succ, i64_w, i32_w]
          rfl
        refine pure_ (i := 1) (N := some 67) (v := ?_) (a' := ?_) #[true, true, false, false, false, false, false, false, false, false, false, false, false, false] rfl rfl (by kernel_rfl) (fun _ _ _ h => h) (Or.inl ⟨by rfl, ?_⟩) ?_ ?_
        rotate_left
        · intro w'
          go_simp
          with_reducible rfl
        rotate_left
        · simp only [Act.put, List.setIfInBounds_toArray, List.set_cons_zero, List.set_cons_succ, i64_w, i32_w]
          rfl
        refine pure_ (i := 2) (N := some 68) (v := ?_) (a' := ?_) #[true, true, true, false, false, false, false, false, false, false, false, false, false, false] rfl rfl (by kernel_rfl) (fun _ _ _ h => h) (Or.inl ⟨by rfl, ?_⟩) ?_ ?_
        rotate_left
        · intro w'
          go_simp
          with_reducible rfl
        rotate_left
        · simp only [Act.put, List.setIfInBounds_toArray, List.set_cons_zero, List.set_cons_succ, i64_w, i32_w]
          rfl
        refine pure_ (i := 3) (N := some 69) (v := ?_) (a' := ?_) #[true, true, true, true, false, false, false, false, false, false, false, false, false, false] rfl rfl (by kernel_rfl) (fun _ _ _ h => h) (Or.inl ⟨by rfl, ?_⟩) ?_ ?_
        rotate_left
        · intro w'
          go_simp
          with_reducible rfl
        rotate_left
        · simp only [Act.put, List.setIfInBounds_toArray, List.set_cons_zero, List.set_cons_succ, i64_w, i32_w]
          rfl
        refine pure_ (i := 4) (N := some 70) (v := ?_) (a' := ?_) #[true, true, true, true, true, false, false, false, false, false, false, false, false, false] rfl rfl (by kernel_rfl) (fun _ _ _ h => h) (Or.inl ⟨by rfl, ?_⟩) ?_ ?_
        rotate_left
        · intro w'
          go_simp
          with_reducible rfl
        rotate_left
        · simp only [Act.put, List.setIfInBounds_toArray, List.set_cons_zero, List.set_cons_succ, i64_w, i32_w]
          rfl
        refine pure_ (i := 6) (N := some 72) (v := ?_) (a' := ?_) #[true, true, true, true, true, false, true, false, false, false, false, false, false, false] rfl rfl (by kernel_rfl) (fun _ _ _ h => h) (Or.inl ⟨by rfl, ?_⟩) ?_ ?_
        rotate_left
        · intro w'
          go_simp
          with_reducible rfl
        rotate_left
        · simp only [Act.put, List.setIfInBounds_toArray, List.set_cons_zero, List.set_cons_succ, i64_w, i32_w]
          rfl
        refine take_ (i := 5) (N := some 71) (v := ?_) (a' := ?_) #[true, true, true, true, true, true, true, false, false, false, false, false, false, false] rfl rfl (by kernel_rfl) (fun _ _ _ h => h) (Or.inl ⟨by rfl, ?_⟩) hHeld ?_ ?_
        rotate_left
        · rintro w' ⟨s0, s1, s2, s3, s4⟩
          go_simp
          with_reducible rfl
        rotate_left
        · simp only [Act.put, List.setIfInBounds_toArray, List.set_cons_zero, List.set_cons_succ, i64_w, i32_w]
          rfl
        refine take_ (i := 7) (N := some 73) (v := ?_) (a' := ?_) #[true, true, true, true, true, true, true, true, false, false, false, false, false, false] rfl rfl (by kernel_rfl) (fun _ _ _ h => h) (Or.inl ⟨by rfl, ?_⟩) hHeld ?_ ?_
        rotate_left
        · rintro w' ⟨s0, s1, s2, s3, s4⟩
          go_simp
          with_reducible rfl
        rotate_left
        · simp only [Act.put, List.setIfInBounds_toArray, List.set_cons_zero, List.set_cons_succ, i64_w, i32_w]
          rfl
        refine one_ (i := 8) (N := some 74) #[true, true, true, true, true, true, true, true, true, false, false, false, false, false] rfl rfl (by kernel_rfl) (by decide) (fun K hK => ?_)
        refine value_ (w1 := ?_) (v := ?_) (by rfl) rfl ?_ ?_
        rotate_left 2
        · go_simp
          constructor
          · rfl
          · rfl
        refine hK.out _ _ ⟨(Blk.alloc hHeld.1 _), (Keeps.alloc hHeld.2.1 _), (Blk.alloc hHeld.2.2.1 _), ((Blk.cell (Blk.alloc hHeld.1 _) 13).trans rfl), ((Blk.cell (Blk.alloc hHeld.2.2.1 _) 1).trans rfl)⟩ ?_
        clear hK K hHeld
        intro hHeld
        refine norm_ (a' := ?_) ?_ ?_
        rotate_left
        · show Act.put _ (some 74) _ = _
          simp only [Act.put, List.setIfInBounds_toArray, List.set_cons_zero, List.set_cons_succ, i64_w, i32_w]
          rfl
        refine one_ (i := 9) (N := some 75) #[true, true, true, true, true, true, true, true, true, true, false, false, false, false] rfl rfl (by kernel_rfl) (by decide) (fun K hK => ?_)
        refine goes_ Try.func58 (by kernel_rfl) rfl #[.slice (some ⟨V1.heap.size, 0, none⟩) 2 2] (by rfl) rfl rfl (by simp only [List.map_toArray, List.map_cons, List.map_nil]; rfl) ?_
        with_reducible refine (add2 V1.heap.size dk p.size _ hud hp0 _ (Blk.drew (Blk.new V1 22 [.int .u64 dk, .int .u64 p.size]))).mono ?_
        rintro e w6 ⟨rfl, rfl⟩
        refine ⟨_, rfl, ?_⟩
        refine hK.out _ _ ⟨hHeld.1, hHeld.2.1, hHeld.2.2.1, ((Blk.cell hHeld.1 13).trans rfl), ((Blk.cell hHeld.2.2.1 1).trans rfl)⟩ ?_
        clear hK K hHeld
        intro hHeld
        refine norm_ (a' := ?_) ?_ ?_
        rotate_left
        · show Act.put _ (some 75) _ = _
          simp only [Act.put, List.setIfInBounds_toArray, List.set_cons_zero, List.set_cons_succ, i64_w, i32_w]
          rfl
        refine pure_ (i := 10) (N := some 76) (v := ?_) (a' := ?_) #[true, true, true, true, true, true, true, true, true, true, true, false, false, false] rfl rfl (by kernel_rfl) (fun _ _ _ h => h) (Or.inl ⟨by rfl, ?_⟩) ?_ ?_
        rotate_left
        · intro w'
          go_simp
          with_reducible rfl
        rotate_left
        · simp only [Act.put, List.setIfInBounds_toArray, List.set_cons_zero, List.set_cons_succ, i64_w, i32_w]
          rfl
        refine pure_ (i := 11) (N := some 77) (v := ?_) (a' := ?_) #[true, true, true, true, true, true, true, true, true, true, true, true, false, false] rfl rfl (by kernel_rfl) (fun _ _ _ h => h) (Or.inl ⟨by rfl, ?_⟩) ?_ ?_
        rotate_left
        · intro w'
          go_simp
          with_reducible rfl
        rotate_left
        · simp only [Act.put, List.setIfInBounds_toArray, List.set_cons_zero, List.set_cons_succ, i64_w, i32_w]
          rfl
        refine pure_ (i := 12) (N := some 78) (v := ?_) (a' := ?_) #[true, true, true, true, true, true, true, true, true, true, true, true, true, false] rfl rfl (by kernel_rfl) (fun _ _ _ h => h) (Or.inl ⟨by rfl, ?_⟩) ?_ ?_
        rotate_left
        · intro w'
          go_simp
          with_reducible rfl
        rotate_left
        · simp only [Act.put, List.setIfInBounds_toArray, List.set_cons_zero, List.set_cons_succ, i64_w, i32_w]
          rfl
        refine last_ (i := 13) (N := none) #[true, true, true, true, true, true, true, true, true, true, true, true, true, true] rfl rfl (by kernel_rfl) (by decide) (fun K hK => ?_)
        refine skip_ (w1 := ?_) (by rfl) rfl ?_ ?_
        rotate_left
        · go_simp
          rfl
        refine hK.out _ _ ?_
        clear hK K
        refine done_ (by kernel_rfl) ?_
        clear hHeld f_B hl_B f_T hl_T
        refine post_at (fun W => Blk W z.a 116 [.int .u64 s4.ra, .int .u64 s4.de, .int .u64 s4.ji, .int .u64 s4.bu, .int .u64 s4.now, .pointer (some ⟨z.b, 0, none⟩), .pointer (some ⟨z.q, 0, none⟩), .pointer (some ⟨z.j, 0, none⟩), .int .u64 s4.came, .int .u64 0, .int .u64 0, .int .u64 s4.served, .int .u64 0, .int .u64 (sat (dk + p.size))] ∧ Keeps [z.a] w5 W ∧ Blk W b7 73 [.int .u64 p.n, .int .u64 p.size, .int .u64 p.sent, .int .u64 p.first, .int .u64 p.del, .int .u64 p.at_, .bool p.lim]) (by
          refine ⟨?_, ?_, ?_⟩
          · exact (by (repeat (first | with_reducible exact B | with_reducible apply Blk.drew | with_reducible apply Blk.drewN | with_reducible refine Blk.newAt (by simp; done) | with_reducible apply Blk.alloc | with_reducible apply Blk.set2 | with_reducible apply Blk.far)); (all_goals (first | rfl | assumption | (exact Ne.symm (by assumption)) | (simp; done) | (simp; omega) | omega)))
          · exact (by (repeat (first | with_reducible exact K | with_reducible apply Keeps.drew | with_reducible apply Keeps.drewN | with_reducible apply Keeps.alloc | with_reducible apply Keeps.set_)); (all_goals (first | (left; simp; done) | (right; assumption) | (right; simp; done) | (right; simp; omega) | (right; omega))))
          · exact (by (repeat (first | with_reducible exact T | with_reducible apply Blk.drew | with_reducible apply Blk.drewN | with_reducible refine Blk.newAt (by simp; done) | with_reducible apply Blk.alloc | with_reducible apply Blk.set2 | with_reducible apply Blk.far)); (all_goals (first | rfl | assumption | (exact Ne.symm (by assumption)) | (simp; done) | (simp; omega) | omega)))) ?_
        clear B K T
        rintro V2 ⟨B, K, T⟩
        clear T
        go_wp2_with (fail)
        go_roundw
        case rel => exact ⟨k + 1, by omega, by go_num, by rw [hs2.out]; exact B, K⟩
        case measure => simp [intOf]; omega
      · obtain rfl : k = outs.length := by omega
        rw [List.take_of_length_le (by simp)] at B
        go_wp2_with (fail)
        go_ret2
        refine ⟨_, rfl, ?_, fun c hc => (hfo c hc).1, ⟨jp, ?_, hjp⟩, K5.trans K (al_cons (.inl (by simp [LA.all])) al_nil)⟩
        · unfold Lnk.ticks
          rw [← hs3.out, ← hs4.out, ← hot.out]
          exact Rr
        · unfold Lnk.tick
          rw [← hs3.out, ← hs4.out, houts.out]
          refine ⟨B, hb5.keeps K (by simp; exact ap.n01.symm), hq5.keeps K (by simp; exact ap.n02.symm) (by simp; exact ap.n03.symm) (by simp; exact ap.n04.symm), hj5.keeps K (by simp; exact ap.n05.symm) (by simp; exact ap.n06.symm) (by simp; exact ap.n07.symm)⟩
  | cons p0 ps0 =>
    have c6 := H3.blk.cell 6
    simp only [LA.withJ, List.getElem?_cons_zero, List.getElem?_cons_succ] at c6
    have hhd := que_head_yes z.q z.qr z.qp s3.Q p0 ps0 w3 H3.hq hx
    simp only [Pkt.val] at hhd
    go_wp2_with (fail)
    refine hhd.mono ?_
    rintro e w4 ⟨rfl, hk⟩
    clear hhd c6
    have ka : Keeps [] w4 (w4.alloc (.cells #[.int .u64 p0.n, .int .u64 p0.size, .int .u64 p0.sent, .int .u64 p0.first, .int .u64 p0.del, .int .u64 p0.at_, .bool p0.lim] 73)) := (Keeps.refl [] w4).alloc _
    have H4 := (H3.keeps0 hk).keeps0 ka
    have K4 := (K3.trans hk (by simp)).trans ka (by simp)
    clear H3 K3 hk
    have es : s3.wastes ws = s3 := by unfold Lnk.wastes; rw [if_neg (by rw [hx]; simp)]
    have hs4 : Hid (s3 = s3.wastes ws) := es.symm
    have ok4 := ok1
    clear es
    obtain ⟨ap, hq, hj, hb⟩ : (z.withJ jp).Apart ∧ QueAt _ z.q z.qr z.qp s3.Q ∧ JbxAt _ z.j z.jr jp s3.J ∧ BktAt _ z.b s3.B := ⟨H4.apart, H4.hq, H4.hj, H4.hb⟩
    have B : Blk _ z.a 116 [.int .u64 s3.ra, .int .u64 s3.de, .int .u64 s3.ji, .int .u64 s3.bu, .int .u64 s3.now, .pointer (some ⟨z.b, 0, none⟩), .pointer (some ⟨z.q, 0, none⟩), .pointer (some ⟨z.j, 0, none⟩), .int .u64 s3.came, .int .u64 0, .int .u64 0, .int .u64 s3.served, .int .u64 0, .int .u64 s3.delivered] := H4.blk
    have c7 := B.cell 7
    simp only [List.getElem?_cons_zero, List.getElem?_cons_succ] at c7
    go_wp2_with (fail)
    refine (jbx_out z.j z.jr jp s3.J t _ hj (by have := ok4.len; omega)).mono ?_
    rintro e w5 ⟨o, rfl, hj5, R5, f5, k5⟩
    have ub := ok4.outs t
    have hol : ((s3.J.outs t).length : Int) ≤ 900000 := by
      have h1 := ok4.len
      have h2 : (s3.J.outs t).length ≤ s3.J.xs.length := by unfold Jbx.outs; rw [List.length_map]; exact (List.takeWhile_sublist _).length_le
      omega
    have hus : ∀ p ∈ s3.J.outs t, U64 p.size := by
      intro p hp
      unfold Jbx.outs at hp
      obtain ⟨d, hd, rfl⟩ := List.mem_map.1 hp
      exact (ok4.js d ((List.takeWhile_sublist _).subset hd)).1
    have hfo : ∀ c, o.ownBlock = some c → w.heap.size ≤ c ∧ c ≠ z.a := by
      intro c hc
      have h1 := f5 c hc
      have h2 := B.lt
      have h3 := K4.size
      omega
    have B5 := B.keeps k5 (nm_cons ap.n06 (nm_cons ap.n07 List.not_mem_nil))
    have hb5 := hb.keeps k5 (nm_cons ap.n16 (nm_cons ap.n17 List.not_mem_nil))
    have hq5 := hq.keeps k5 (nm_cons ap.n26 (nm_cons ap.n27 List.not_mem_nil)) (nm_cons ap.n36 (nm_cons ap.n37 List.not_mem_nil)) (nm_cons ap.n46 (nm_cons ap.n47 List.not_mem_nil))
    have K5 : Keeps z.all w w5 := K4.trans k5 (al_cons (.inl (by simp [LA.all])) (al_cons (hjp.elim (fun h => .inl (by simp [LA.all, h])) .inr) al_nil))
    clear B hb hq hj k5 c7 H4 K4
    obtain ⟨outs, hot⟩ : ∃ o, Hid (o = s3.J.outs t) := ⟨_, rfl⟩
    rw [← hot.out] at hol hus R5
    have houts : Hid ((s3.outs t) = ({ s3 with J := s3.J.out t, delivered := sadd s3.delivered (outs.map (·.size)) } : Lnk)) := by rw [hot.out]; exact rfl
    obtain ⟨A, cap, rfl⟩ := R5.formN (n := outs.length) (by simp)
    go_wp2_with (fail)
    go_loopw [62] (fun i wx => ∃ k : Nat, k ≤ outs.length ∧ i = .int .i64 k ∧ Blk wx z.a 116 [.int .u64 s3.ra, .int .u64 s3.de, .int .u64 s3.ji, .int .u64 s3.bu, .int .u64 s3.now, .pointer (some ⟨z.b, 0, none⟩), .pointer (some ⟨z.q, 0, none⟩), .pointer (some ⟨z.j, 0, none⟩), .int .u64 s3.came, .int .u64 0, .int .u64 0, .int .u64 s3.served, .int .u64 0, .int .u64 (sadd s3.delivered ((outs.map (·.size)).take k))] ∧ Keeps [z.a] w5 wx) (fun i _ => outs.length - (intOf i).toNat)
    case atStart => exact ⟨0, Nat.zero_le _, rfl, by simpa [sadd] using B5, Keeps.refl _ _⟩
    case round =>
      obtain ⟨k, hk, rfl, B, K⟩ := hrel
      have Rr := R5.keeps K (by intro c hc; simp; exact (hfo c hc).2)
      by_cases hlt : k < outs.length
      · obtain ⟨g, rfl⟩ := Rr.addr (by simp; omega)
        have hxk : (outs.map Pkt.cells)[k]? = some (outs[k]).cells := by simp [hlt]
        have y := fun j hj => Rr.at_ (j := j) hxk hj
        have y0 := y 0 (by decide)
        have y1 := y 1 (by decide)
        have y2 := y 2 (by decide)
        have y3 := y 3 (by decide)
        have y4 := y 4 (by decide)
        have y5 := y 5 (by decide)
        have y6 := y 6 (by decide)
        simp only [Pkt.cells, List.getElem?_cons_zero, List.getElem?_cons_succ, Nat.add_zero] at y0 y1 y2 y3 y4 y5 y6
        have hlt' : (k : Int) < outs.length := by omega
        have hp0 := hus _ (List.getElem_mem hlt)
        have hs2 : Hid (sadd s3.delivered ((outs.map (·.size)).take (k + 1)) = sat (sadd s3.delivered ((outs.map (·.size)).take k) + (outs[k]).size)) := by
          show _ = _
          rw [sadd_take _ _ _ (by simpa using hlt)]; simp
        have hud : U64 (sadd s3.delivered ((outs.map (·.size)).take k)) := sadd_u _ _ ok4.delivered (by
          intro x hx'
          obtain ⟨p, hp, rfl⟩ := List.mem_map.1 (List.mem_of_mem_take hx')
          exact hus p hp)
        clear y hxk Rr
        generalize sadd s3.delivered ((outs.map (·.size)).take k) = dk at *
        generalize outs[k] = p at *
        go_wp2_with (fail)
        have hw5 := K.size
        clear hfo B5 R5
        have hza := B.lt
        have ne_z_a_b7 : z.a ≠ wr.heap.size := by have h_ := B.lt; omega
        have fr_b7 : w5.heap.size ≤ wr.heap.size := by have h_ := K.size; omega
        refine wp_at (fun W => Blk W z.a 116 [.int .u64 s3.ra, .int .u64 s3.de, .int .u64 s3.ji, .int .u64 s3.bu, .int .u64 s3.now, .pointer (some ⟨z.b, 0, none⟩), .pointer (some ⟨z.q, 0, none⟩), .pointer (some ⟨z.j, 0, none⟩), .int .u64 s3.came, .int .u64 0, .int .u64 0, .int .u64 s3.served, .int .u64 0, .int .u64 dk] ∧ Keeps [z.a] w5 W ∧ Blk W wr.heap.size 73 [.int .u64 p.n, .int .u64 p.size, .int .u64 p.sent, .int .u64 p.first, .int .u64 p.del, .int .u64 p.at_, .bool p.lim]) (by
          refine ⟨?_, ?_, ?_⟩
          · exact (by (repeat (first | with_reducible exact B | with_reducible apply Blk.drew | with_reducible apply Blk.drewN | with_reducible refine Blk.newAt (by simp; done) | with_reducible apply Blk.alloc | with_reducible apply Blk.set2 | with_reducible apply Blk.far)); (all_goals (first | rfl | assumption | (exact Ne.symm (by assumption)) | (simp; done) | (simp; omega) | omega)))
          · exact (by (repeat (first | with_reducible exact K | with_reducible apply Keeps.drew | with_reducible apply Keeps.drewN | with_reducible apply Keeps.alloc | with_reducible apply Keeps.set_)); (all_goals (first | (left; simp; done) | (right; assumption) | (right; simp; done) | (right; simp; omega) | (right; omega))))
          · exact (by (repeat (first | with_reducible refine Blk.newAt (by simp; done) | with_reducible apply Blk.drew | with_reducible apply Blk.drewN | with_reducible apply Blk.alloc | with_reducible apply Blk.set2 | with_reducible apply Blk.far)); (all_goals (first | rfl | assumption | (simp; done) | (simp; omega) | omega)))) ?_
        clear B K
        rintro V1 ⟨B, K, T⟩
        generalize hb_b7 : wr.heap.size = b7 at *
        clear y0 y1 y2 y3 y4 y5 y6
        have hl_B := B.lt
        have f_B := fun i => B.frozen i
        have hl_T := T.lt
        have f_T := fun i => T.frozen i
        refine start_ (n := 14) (S := fun w' => Blk w' z.a 116 [.int .u64 s3.ra, .int .u64 s3.de, .int .u64 s3.ji, .int .u64 s3.bu, .int .u64 s3.now, .pointer (some ⟨z.b, 0, none⟩), .pointer (some ⟨z.q, 0, none⟩), .pointer (some ⟨z.j, 0, none⟩), .int .u64 s3.came, .int .u64 0, .int .u64 0, .int .u64 s3.served, .int .u64 0, .int .u64 dk] ∧ Keeps [z.a] w5 w' ∧ Blk w' b7 73 [.int .u64 p.n, .int .u64 p.size, .int .u64 p.sent, .int .u64 p.first, .int .u64 p.del, .int .u64 p.at_, .bool p.lim] ∧ w'.cell? ⟨z.a, 13, none⟩ = some (.int .u64 dk) ∧ w'.cell? ⟨b7, 1, none⟩ = some (.int .u64 p.size)) (ds := [13]) #[false, false, false, false, false, false, false, false, false, false, false, false, false, false] (by kernel_rfl) rfl rfl ⟨(Blk.drew B), (Keeps.drew K), (Blk.drew T), ((Blk.cell (Blk.drew B) 13).trans rfl), ((Blk.cell (Blk.drew T) 1).trans rfl)⟩ (fun hHeld => ?_)
        refine pure_ (i := 0) (N := some 66) (v := ?_) (a' := ?_) #[true, false, false, false, false, false, false, false, false, false, false, false, false, false] rfl rfl (by kernel_rfl) (fun _ _ _ h => h) (Or.inl ⟨by rfl, ?_⟩) ?_ ?_
        rotate_left
        · intro w'
          go_simp
          with_reducible rfl
        rotate_left
        · simp only [Act.put, List.setIfInBounds_toArray, List.set_cons_zero, List.set_cons_succ, i64_w, i32_w]
          rfl
        refine pure_ (i := 1) (N := some 67) (v := ?_) (a' := ?_) #[true, true, false, false, false, false, false, false, false, false, false, false, false, false] rfl rfl (by kernel_rfl) (fun _ _ _ h => h) (Or.inl ⟨by rfl, ?_⟩) ?_ ?_
        rotate_left
        · intro w'
          go_simp
          with_reducible rfl
        rotate_left
        · simp only [Act.put, List.setIfInBounds_toArray, List.set_cons_zero, List.set_cons_succ, i64_w, i32_w]
          rfl
        refine pure_ (i := 2) (N := some 68) (v := ?_) (a' := ?_) #[true, true, true, false, false, false, false, false, false, false, false, false, false, false] rfl rfl (by kernel_rfl) (fun _ _ _ h => h) (Or.inl ⟨by rfl, ?_⟩) ?_ ?_
        rotate_left
        · intro w'
          go_simp
          with_reducible rfl
        rotate_left
        · simp only [Act.put, List.setIfInBounds_toArray, List.set_cons_zero, List.set_cons_succ, i64_w, i32_w]
          rfl
        refine pure_ (i := 3) (N := some 69) (v := ?_) (a' := ?_) #[true, true, true, true, false, false, false, false, false, false, false, false, false, false] rfl rfl (by kernel_rfl) (fun _ _ _ h => h) (Or.inl ⟨by rfl, ?_⟩) ?_ ?_
        rotate_left
        · intro w'
          go_simp
          with_reducible rfl
        rotate_left
        · simp only [Act.put, List.setIfInBounds_toArray, List.set_cons_zero, List.set_cons_succ, i64_w, i32_w]
          rfl
        refine pure_ (i := 4) (N := some 70) (v := ?_) (a' := ?_) #[true, true, true, true, true, false, false, false, false, false, false, false, false, false] rfl rfl (by kernel_rfl) (fun _ _ _ h => h) (Or.inl ⟨by rfl, ?_⟩) ?_ ?_
        rotate_left
        · intro w'
          go_simp
          with_reducible rfl
        rotate_left
        · simp only [Act.put, List.setIfInBounds_toArray, List.set_cons_zero, List.set_cons_succ, i64_w, i32_w]
          rfl
        refine pure_ (i := 6) (N := some 72) (v := ?_) (a' := ?_) #[true, true, true, true, true, false, true, false, false, false, false, false, false, false] rfl rfl (by kernel_rfl) (fun _ _ _ h => h) (Or.inl ⟨by rfl, ?_⟩) ?_ ?_
        rotate_left
        · intro w'
          go_simp
          with_reducible rfl
        rotate_left
        · simp only [Act.put, List.setIfInBounds_toArray, List.set_cons_zero, List.set_cons_succ, i64_w, i32_w]
          rfl
        refine take_ (i := 5) (N := some 71) (v := ?_) (a' := ?_) #[true, true, true, true, true, true, true, false, false, false, false, false, false, false] rfl rfl (by kernel_rfl) (fun _ _ _ h => h) (Or.inl ⟨by rfl, ?_⟩) hHeld ?_ ?_
        rotate_left
        · rintro w' ⟨s0, s1, s2, s3, s4⟩
          go_simp
          with_reducible rfl
        rotate_left
        · simp only [Act.put, List.setIfInBounds_toArray, List.set_cons_zero, List.set_cons_succ, i64_w, i32_w]
          rfl
        refine take_ (i := 7) (N := some 73) (v := ?_) (a' := ?_) #[true, true, true, true, true, true, true, true, false, false, false, false, false, false] rfl rfl (by kernel_rfl) (fun _ _ _ h => h) (Or.inl ⟨by rfl, ?_⟩) hHeld ?_ ?_
        rotate_left
        · rintro w' ⟨s0, s1, s2, s3, s4⟩
          go_simp
          with_reducible rfl
        rotate_left
        · simp only [Act.put, List.setIfInBounds_toArray, List.set_cons_zero, List.set_cons_succ, i64_w, i32_w]
          rfl
        refine one_ (i := 8) (N := some 74) #[true, true, true, true, true, true, true, true, true, false, false, false, false, false] rfl rfl (by kernel_rfl) (by decide) (fun K hK => ?_)
        refine value_ (w1 := ?_) (v := ?_) (by rfl) rfl ?_ ?_
        rotate_left 2
        · go_simp
          constructor
          · rfl
          · rfl
        refine hK.out _ _ ⟨(Blk.alloc hHeld.1 _), (Keeps.alloc hHeld.2.1 _), (Blk.alloc hHeld.2.2.1 _), ((Blk.cell (Blk.alloc hHeld.1 _) 13).trans rfl), ((Blk.cell (Blk.alloc hHeld.2.2.1 _) 1).trans rfl)⟩ ?_
        clear hK K hHeld
        intro hHeld
        refine norm_ (a' := ?_) ?_ ?_
        rotate_left
        · show Act.put _ (some 74) _ = _
          simp only [Act.put, List.setIfInBounds_toArray, List.set_cons_zero, List.set_cons_succ, i64_w, i32_w]
          rfl
        refine one_ (i := 9) (N := some 75) #[true, true, true, true, true, true, true, true, true, true, false, false, false, false] rfl rfl (by kernel_rfl) (by decide) (fun K hK => ?_)
        refine goes_ Try.func58 (by kernel_rfl) rfl #[.slice (some ⟨V1.heap.size, 0, none⟩) 2 2] (by rfl) rfl rfl (by simp only [List.map_toArray, List.map_cons, List.map_nil]; rfl) ?_
        with_reducible refine (add2 V1.heap.size dk p.size _ hud hp0 _ (Blk.drew (Blk.new V1 22 [.int .u64 dk, .int .u64 p.size]))).mono ?_
        rintro e w6 ⟨rfl, rfl⟩
        refine ⟨_, rfl, ?_⟩
        refine hK.out _ _ ⟨hHeld.1, hHeld.2.1, hHeld.2.2.1, ((Blk.cell hHeld.1 13).trans rfl), ((Blk.cell hHeld.2.2.1 1).trans rfl)⟩ ?_
        clear hK K hHeld
        intro hHeld
        refine norm_ (a' := ?_) ?_ ?_
        rotate_left
        · show Act.put _ (some 75) _ = _
          simp only [Act.put, List.setIfInBounds_toArray, List.set_cons_zero, List.set_cons_succ, i64_w, i32_w]
          rfl
        refine pure_ (i := 10) (N := some 76) (v := ?_) (a' := ?_) #[true, true, true, true, true, true, true, true, true, true, true, false, false, false] rfl rfl (by kernel_rfl) (fun _ _ _ h => h) (Or.inl ⟨by rfl, ?_⟩) ?_ ?_
        rotate_left
        · intro w'
          go_simp
          with_reducible rfl
        rotate_left
        · simp only [Act.put, List.setIfInBounds_toArray, List.set_cons_zero, List.set_cons_succ, i64_w, i32_w]
          rfl
        refine pure_ (i := 11) (N := some 77) (v := ?_) (a' := ?_) #[true, true, true, true, true, true, true, true, true, true, true, true, false, false] rfl rfl (by kernel_rfl) (fun _ _ _ h => h) (Or.inl ⟨by rfl, ?_⟩) ?_ ?_
        rotate_left
        · intro w'
          go_simp
          with_reducible rfl
        rotate_left
        · simp only [Act.put, List.setIfInBounds_toArray, List.set_cons_zero, List.set_cons_succ, i64_w, i32_w]
          rfl
        refine pure_ (i := 12) (N := some 78) (v := ?_) (a' := ?_) #[true, true, true, true, true, true, true, true, true, true, true, true, true, false] rfl rfl (by kernel_rfl) (fun _ _ _ h => h) (Or.inl ⟨by rfl, ?_⟩) ?_ ?_
        rotate_left
        · intro w'
          go_simp
          with_reducible rfl
        rotate_left
        · simp only [Act.put, List.setIfInBounds_toArray, List.set_cons_zero, List.set_cons_succ, i64_w, i32_w]
          rfl
        refine last_ (i := 13) (N := none) #[true, true, true, true, true, true, true, true, true, true, true, true, true, true] rfl rfl (by kernel_rfl) (by decide) (fun K hK => ?_)
        refine skip_ (w1 := ?_) (by rfl) rfl ?_ ?_
        rotate_left
        · go_simp
          rfl
        refine hK.out _ _ ?_
        clear hK K
        refine done_ (by kernel_rfl) ?_
        clear hHeld f_B hl_B f_T hl_T
        refine post_at (fun W => Blk W z.a 116 [.int .u64 s3.ra, .int .u64 s3.de, .int .u64 s3.ji, .int .u64 s3.bu, .int .u64 s3.now, .pointer (some ⟨z.b, 0, none⟩), .pointer (some ⟨z.q, 0, none⟩), .pointer (some ⟨z.j, 0, none⟩), .int .u64 s3.came, .int .u64 0, .int .u64 0, .int .u64 s3.served, .int .u64 0, .int .u64 (sat (dk + p.size))] ∧ Keeps [z.a] w5 W ∧ Blk W b7 73 [.int .u64 p.n, .int .u64 p.size, .int .u64 p.sent, .int .u64 p.first, .int .u64 p.del, .int .u64 p.at_, .bool p.lim]) (by
          refine ⟨?_, ?_, ?_⟩
          · exact (by (repeat (first | with_reducible exact B | with_reducible apply Blk.drew | with_reducible apply Blk.drewN | with_reducible refine Blk.newAt (by simp; done) | with_reducible apply Blk.alloc | with_reducible apply Blk.set2 | with_reducible apply Blk.far)); (all_goals (first | rfl | assumption | (exact Ne.symm (by assumption)) | (simp; done) | (simp; omega) | omega)))
          · exact (by (repeat (first | with_reducible exact K | with_reducible apply Keeps.drew | with_reducible apply Keeps.drewN | with_reducible apply Keeps.alloc | with_reducible apply Keeps.set_)); (all_goals (first | (left; simp; done) | (right; assumption) | (right; simp; done) | (right; simp; omega) | (right; omega))))
          · exact (by (repeat (first | with_reducible exact T | with_reducible apply Blk.drew | with_reducible apply Blk.drewN | with_reducible refine Blk.newAt (by simp; done) | with_reducible apply Blk.alloc | with_reducible apply Blk.set2 | with_reducible apply Blk.far)); (all_goals (first | rfl | assumption | (exact Ne.symm (by assumption)) | (simp; done) | (simp; omega) | omega)))) ?_
        clear B K T
        rintro V2 ⟨B, K, T⟩
        clear T
        go_wp2_with (fail)
        go_roundw
        case rel => exact ⟨k + 1, by omega, by go_num, by rw [hs2.out]; exact B, K⟩
        case measure => simp [intOf]; omega
      · obtain rfl : k = outs.length := by omega
        rw [List.take_of_length_le (by simp)] at B
        go_wp2_with (fail)
        go_ret2
        refine ⟨_, rfl, ?_, fun c hc => (hfo c hc).1, ⟨jp, ?_, hjp⟩, K5.trans K (al_cons (.inl (by simp [LA.all])) al_nil)⟩
        · unfold Lnk.ticks
          rw [← hs3.out, ← hs4.out, ← hot.out]
          exact Rr
        · unfold Lnk.tick
          rw [← hs3.out, ← hs4.out, houts.out]
          refine ⟨B, hb5.keeps K (by simp; exact ap.n01.symm), hq5.keeps K (by simp; exact ap.n02.symm) (by simp; exact ap.n03.symm) (by simp; exact ap.n04.symm), hj5.keeps K (by simp; exact ap.n05.symm) (by simp; exact ap.n06.symm) (by simp; exact ap.n07.symm)⟩
end Go.Proofs.Ytjnojomfaikfjaa
