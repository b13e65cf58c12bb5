/- goitlaw21: packets, alive. -/
import Derived.Test.YtjnojomfaikfjaaLawLA
namespace Go.Proofs.Ytjnojomfaikfjaa
set_option linter.unusedSimpArgs false
set_option linter.unusedVariables false
open Go.RowKit Go.Proofs.YtjnojomfaikfjaaW.PrintLast
theorem pkts_get : ∀ (l : List Int) (frm k : Nat) (h : k < (pkts frm l).length), (pkts frm l)[k] = ⟨((frm + k : Nat) : Int), l[k]'(by rw [pkts_len] at h; exact h), 0, 0, 0, 0, false⟩
  | [], _, _, h => by simp [pkts] at h
  | z :: l, frm, 0, _ => rfl
  | z :: l, frm, k + 1, h => by
    have := pkts_get l (frm + 1) k (by simpa [pkts] using h)
    simp only [pkts, List.getElem_cons_succ]
    rw [this]
    congr 2
    omega
set_option maxHeartbeats 4000000 in
set_option maxRecDepth 100000 in
theorem packets_calls (frm : Nat) (B : Nat) (v : Value) (l : List Int) (w : World) (h : Nums w B v l) (hB : B ≤ w.heap.size) (hm : l.length ≤ 60) (hf : frm ≤ 100000) :
    Calls Try.prog 17 #[.int .i64 frm, v] w fun e w' => ∃ o, e = .returned o ∧ Row w' 73 7 o ((pkts frm l).map Pkt.cells) ∧ (∀ b, o.ownBlock = some b → w.heap.size ≤ b) ∧ Keeps [] w w' := by
  obtain ⟨hu, -, A, c, rfl, hlc, hz⟩ := h
  have hlp := pkts_len l frm
  go_enter Try.func17, Try.ntmps17
  go_wp2_with (fail)
  go_loopw [5, 6] (fun o i wr => ∃ k : Nat, k ≤ l.length ∧ i = .int .i64 k ∧ Row wr 73 7 o (((pkts frm l).map Pkt.cells).take k) ∧ (∀ b, o.ownBlock = some b → w.heap.size ≤ b) ∧ Keeps [] w wr) (fun _ i _ => l.length - (intOf i).toNat)
  case atStart => exact ⟨0, Nat.zero_le _, rfl, Row.nil _ _ _, by simp [Value.ownBlock], Keeps.refl _ _⟩
  case round =>
    obtain ⟨k, hk, rfl, R, hfr, K⟩ := hrel
    by_cases hlt : k < l.length
    · have hlt' : (k : Int) < l.length := by omega
      obtain ⟨a, rfl, y, hab⟩ := hz k hlt
      replace y := (K.cell (by omega) (by simp)).trans y
      have hpk := pkts_get l frm k (by omega)
      have hm2 : (((pkts frm l).map Pkt.cells).take k).length = k := by rw [List.length_take]; simp; omega
      have hm1 : ((pkts frm l).map Pkt.cells).take k ++ [[.int .u64 ((frm + k : Nat) : Int), .int .u64 l[k], .int .u64 0, .int .u64 0, .int .u64 0, .int .u64 0, .bool false]] = ((pkts frm l).map Pkt.cells).take (k + 1) := by
        rw [List.take_succ_eq_append_getElem (by simp; omega)]
        congr 1
        rw [List.getElem_map, hpk]
        rfl
      obtain ⟨A', cap, rfl⟩ := R.formN hm2
      obtain ⟨v', w3, hrun, R3, f3, K3⟩ := Row.pushK pk_slt 37 R K hfr ((Keeps.refl [] wr).alloc (.cells #[.int .u64 ((frm : Int) + k), .int .u64 l[k], .int .u64 0, .int .u64 0, .int .u64 0, .int .u64 0, .bool false] 73)) wr.heap.size 73 [.int .u64 ((frm + k : Nat) : Int), .int .u64 l[k], .int .u64 0, .int .u64 0, .int .u64 0, .int .u64 0, .bool false] (Blk.newAt (by simp)) rfl (by simp [Value.oneCell']) (by rw [hm2]; omega)
      rw [hm1] at R3
      obtain ⟨A'', cap', rfl⟩ := R3.formN (n := k + 1) (by rw [List.length_take]; simp; omega)
      replace hrun : Hid _ := hrun
      clear hm1 hpk hz hu R
      have hk1 : (0 : Int) ≤ (k : Int) ∧ (k : Int) ≤ 60 := by omega
      have hf1 : (0 : Int) ≤ (frm : Int) ∧ (frm : Int) ≤ 100000 := by omega
      have c3 : IntKind.u64.wrap ((frm : Int) + k) = (frm : Int) + k := u64add (frm : Int) (k : Int) ⟨hf1.1, by omega⟩ ⟨hk1.1, by omega⟩ (by omega)
      have c1 := i64k ((frm : Int) + k) (by omega) (by omega)
      have c2 := i64w ((frm : Int) + k) (by omega) (by omega)
      generalize l[k] = zk at *
      go_wp2_with (at_builtin; refine wpList_append_run rfl rfl rfl rfl hrun.out rfl ?_)
      clear c1 c2 c3
      go_roundw
      case rel => exact ⟨k + 1, by omega, by go_num, R3, f3, K3⟩
      case measure => simp [intOf]; omega
    · obtain rfl : k = l.length := by omega
      rw [List.take_of_length_le (by simp; omega)] at R
      go_wp2
      go_ret
      exact ⟨_, rfl, R, hfr, K⟩
theorem row3 (w : World) (p q r : Pkt) : Row (w.alloc (.cells (p.cells ++ q.cells ++ r.cells).toArray 73)) 73 7 (.slice (some ⟨w.heap.size, 0, none⟩) 3 3) ([p, q, r].map Pkt.cells) := by
  refine ⟨own_mk (Blk.new w _ _) (Nat.le_refl _) (by decide) (by simp [Pkt.cells]) (by simp [Pkt.cells]), ?_, ?_⟩
  · intro x hx; simp at hx; rcases hx with rfl | rfl | rfl <;> rfl
  · intro x hx; simp at hx; rcases hx with rfl | rfl | rfl <;> exact pkt_one _
theorem ch_nil (w : World) (bs : List Nat) : ChAt w (.slice none 0 0) [] bs := ⟨none, 0, rfl, Nat.le_refl _, fun k h => absurd h (by simp)⟩
def pA : Pkt := ⟨1, 1000, 0, 0, 0, 0, false⟩
def pB : Pkt := ⟨2, 600, 0, 0, 0, 0, false⟩
def pC : Pkt := ⟨3, 500, 0, 0, 0, 0, false⟩
def sA : Lnk := ⟨1000000, 100, 10, 1500, 0, 2100, 0, 0, ⟨0, 0, 1000000, 0⟩, ⟨1500, 1500, 1, 600, [pA, pC]⟩, ⟨100, 10, 0, []⟩⟩
def sB : Lnk := ⟨1000000, 100, 10, 1500, 1000, 2100, 1000, 0, ⟨0, 0, 1000000, 1000⟩, ⟨1500, 500, 1, 600, [pC]⟩, ⟨100, 10, 1103, [⟨pA, 1103⟩]⟩⟩
def sC : Lnk := ⟨1000000, 100, 10, 1500, 1103, 2100, 1000, 1000, ⟨103000000, 0, 1000000, 1103⟩, ⟨1500, 500, 1, 600, [pC]⟩, ⟨100, 10, 1103, []⟩⟩
theorem eA : (Lnk.new 1000000 100 10 1500).send [pA, pB, pC] = sA := by rfl
theorem kA : (Lnk.new 1000000 100 10 1500).kept [pA, pB, pC] = 2 := by rfl
theorem eB : sA.tick 1000 9 [3] = sB := by rfl
theorem oB : sA.ticks 1000 9 [3] = [] := by rfl
theorem eC : sB.tick 1103 0 [] = sC := by rfl
theorem oC : sB.ticks 1103 0 [] = [pA] := by rfl
set_option maxHeartbeats 8000000 in
set_option maxRecDepth 100000 in
theorem alive21 (w : World) : Calls Try.prog 13 #[] w fun e w' => e = .returned (.bool true) ∧ Keeps [] w w' := by
  have u : ∀ n : Int, 0 ≤ n → n ≤ 1000000 → U64 n := fun n h0 h1 => ⟨h0, by omega⟩
  have okA : sA.Ok 3 := by
    have ok0 : (Lnk.new 1000000 100 10 1500).Ok 0 := Lnk.Ok.new (u _ (by decide) (by decide)) (u _ (by decide) (by decide)) (u _ (by decide) (by decide)) (u _ (by decide) (by decide))
    have := Lnk.Ok.send [pA, pB, pC] ok0 (by intro p hp; simp at hp; rcases hp with rfl | rfl | rfl <;> exact u _ (by decide) (by decide))
    rw [eA] at this
    exact this
  have okB : sB.Ok 3 := by
    have := okA.tick (t := 1000) (k := 9) (cs := [3]) (by decide) (u _ (by decide) (by decide)) (u _ (by decide) (by decide)) (by intro c hc; simp at hc; subst hc; exact u _ (by decide) (by decide))
    rw [eB] at this
    exact this
  have okC : sC.Ok 3 := by
    have := okB.tick (t := 1103) (k := 0) (cs := []) (by decide) (u _ (by decide) (by decide)) (u _ (by decide) (by decide)) (by simp)
    rw [eC] at this
    exact this
  go_enter Try.func13, Try.ntmps13
  go_wp2_with (fail)
  refine (lnk_new_yes 1000000 100 10 1500 w (by decide)).mono ?_
  rintro e w1 ⟨z, rfl, h1, ⟨g1, g2, g3, g4, g5, g6, g7, g8⟩, K1⟩
  have ok0 : (Lnk.new 1000000 100 10 1500).Ok 0 := Lnk.Ok.new (u _ (by decide) (by decide)) (u _ (by decide) (by decide)) (u _ (by decide) (by decide)) (u _ (by decide) (by decide))
  have hk2 : Keeps [] w1 (w1.alloc (.cells (pA.cells ++ pB.cells ++ pC.cells).toArray 73)) := (Keeps.refl _ _).alloc _
  have hzb := h1.hq.row.lt
  have hsend := lnk_send z _ [pA, pB, pC] _ 0 _ (h1.keeps0 hk2) ok0 (row3 w1 pA pB pC) (by simp [Value.ownBlock]; omega) (by intro p hp; simp at hp; rcases hp with rfl | rfl | rfl <;> exact u _ (by decide) (by decide)) (by decide)
  rw [eA, kA] at hsend
  simp only [pA, pB, pC, Pkt.cells, List.cons_append, List.nil_append] at hsend hk2
  go_wp2_with (fail)
  refine hsend.mono ?_
  rintro e w2 ⟨rfl, ⟨qp, H2, hqp⟩, k2⟩
  have K2 : Keeps [] w w2 := (K1.trans hk2 (by simp)).trans k2 (al_cons (.inr g1) (al_cons (.inr g3) (al_cons (.inr g4) (al_cons (.inr g5) al_nil))))
  have g5' : w.heap.size ≤ qp := by
    rcases hqp with h | h
    · rw [h]; exact g5
    · have := K1.size; simp at h; omega
  clear hsend hk2 h1 K1 k2 hqp ok0 hzb
  have hall : ∀ b ∈ (z.withQ qp).all, w.heap.size ≤ b := al_cons g1 (al_cons g2 (al_cons g3 (al_cons g4 (al_cons g5' (al_cons g6 (al_cons g7 (al_cons g8 al_nil)))))))
  have hall' : ∀ b ∈ (z.withQ qp).all, b < w2.heap.size := al_cons H2.blk.lt (al_cons (Blk.lt H2.hb) (al_cons H2.hq.lt.1 (al_cons H2.hq.lt.2.1 (al_cons H2.hq.lt.2.2 (al_cons H2.hj.lt.1 (al_cons H2.hj.lt.2.1 (al_cons H2.hj.lt.2.2 al_nil)))))))
  have hc : ChAt (w2.alloc (.cells #[.int .u64 3] 22)) (.slice (some ⟨w2.heap.size, 0, none⟩) 1 1) [3] (z.withQ qp).all := by
    refine ⟨some ⟨w2.heap.size, 0, none⟩, 1, rfl, Nat.le_refl _, fun k hk => ⟨_, rfl, ?_, ?_, ?_⟩⟩
    · have : k = 0 := by simp at hk; exact hk
      subst this
      exact (Blk.new w2 22 [.int .u64 3]).cell 0
    · have : k = 0 := by simp at hk; exact hk
      subst this
      intro hm; exact Nat.lt_irrefl _ (hall' _ hm)
    · have : k = 0 := by simp at hk; exact hk
      subst this
      show w2.heap.size < _; simp
  have ht1 := lnk_tick (z.withQ qp) sA 1000 9 [3] _ 3 _ (H2.keeps0 ((Keeps.refl [] w2).alloc (.cells #[.int .u64 3] 22))) okA (by decide) (by decide) (u _ (by decide) (by decide)) (u _ (by decide) (by decide)) (by intro c hc; simp at hc; subst hc; exact u _ (by decide) (by decide)) hc
  rw [eB, oB] at ht1
  clear hc hall'
  go_wp2_with (fail)
  refine ht1.mono ?_
  rintro e w3 ⟨o3, rfl, R3, -, ⟨jp, H3, hjp⟩, k3⟩
  obtain ⟨A3, cap3, rfl⟩ := R3.formN (n := 0) rfl
  have K3 : Keeps [] w w3 := (K2.alloc _).trans k3 (fun b hb => .inr (hall b hb))
  have g8' : w.heap.size ≤ jp := by
    rcases hjp with h | h
    · rw [h]; exact g8
    · have := K2.size; simp at h; omega
  clear ht1 H2 K2 k3 hjp R3
  go_wp2_with (fail)
  have hnx : Calls Try.prog 29 #[.pointer (some ⟨z.a, 0, none⟩)] w3 fun e w' => e = .returned (.tuple #[.int .u64 1103, .bool true]) ∧ Keeps [] w3 w' := lnk_next ((z.withQ qp).withJ jp) sB w3 H3
  refine hnx.mono ?_
  rintro e w4 ⟨rfl, k4⟩
  have H4 := H3.keeps0 k4
  have K4 := K3.trans k4 (by simp)
  have hall4 : ∀ b ∈ ((z.withQ qp).withJ jp).all, w.heap.size ≤ b := al_cons g1 (al_cons g2 (al_cons g3 (al_cons g4 (al_cons g5' (al_cons g6 (al_cons g7 (al_cons g8' al_nil)))))))
  have ht2 := lnk_tick ((z.withQ qp).withJ jp) sB 1103 0 [] (.slice none 0 0) 3 w4 H4 okB (by decide) (by decide) (u _ (by decide) (by decide)) (u _ (by decide) (by decide)) (by simp) (ch_nil _ _)
  rw [eC, oC] at ht2
  clear H3 K3 k4
  clear hnx
  go_wp2_with (fail)
  refine ht2.mono ?_
  rintro e w5 ⟨o5, rfl, R5, -, ⟨jp5, H5, hjp5⟩, k5⟩
  have K5 : Keeps [] w w5 := K4.trans k5 (fun b hb => .inr (hall4 b hb))
  obtain ⟨A5, cap5, rfl⟩ := R5.formN (n := 1) rfl
  obtain ⟨g, rfl⟩ := R5.addr (by decide)
  have y0 : w5.cell? ⟨g, 0, none⟩ = some (.int .u64 1) := R5.at_ (k := 0) (j := 0) (x := pA.cells) rfl (by decide)
  clear ht2 H4 K4 k5
  have hbk := lnk_tick_back (((z.withQ qp).withJ jp).withJ jp5) sC 5 0 (.slice none 0 0) w5 H5 (by decide)
  have hct := lnk_count (((z.withQ qp).withJ jp).withJ jp5) sC 3 w5 H5 okC (by decide)
  have e3 : sC.count = .agg #[.int .u64 2100, .int .u64 600, .int .u64 500, .int .u64 1000, .int .u64 0, .int .u64 1000] := by rfl
  rw [e3] at hct
  clear e3 hjp5 R5 okA okB okC
  go_wp2_with (fail)
  refine hbk.mono ?_
  rintro e w_ ⟨rfl, hw_⟩
  obtain rfl := hw_.symm
  clear hbk
  go_wp2_with (fail)
  refine hct.mono ?_
  rintro e w6 ⟨rfl, k6⟩
  go_wp2
  go_ret
  exact ⟨rfl, K5.trans k6 (by simp)⟩
end Go.Proofs.Ytjnojomfaikfjaa
