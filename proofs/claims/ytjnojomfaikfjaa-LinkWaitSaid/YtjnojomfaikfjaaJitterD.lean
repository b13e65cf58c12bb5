/- jitter.Box: All. -/
import Derived.Test.YtjnojomfaikfjaaJitterC
import Derived.Test.YtjnojomfaikfjaaRingAllDu
namespace Go.Proofs.Ytjnojomfaikfjaa
set_option linter.unusedSimpArgs false
set_option linter.unusedVariables false
open Go.RowKit Go.Proofs.YtjnojomfaikfjaaW.PrintLast
theorem pk_slt : SlT Try.prog 37 73 7 := SlT.of (z := .agg #[.int .u64 0, .int .u64 0, .int .u64 0, .int .u64 0, .int .u64 0, .int .u64 0, .bool false]) (by_ := 56) Try.underlying37 (by kernel_rfl) (by decide) rfl (by decide)
theorem pkt_one (p : Pkt) : ∀ u ∈ p.cells, u.oneCell' = true := by simp [Pkt.cells, Value.oneCell']
set_option maxHeartbeats 4000000 in
set_option maxRecDepth 100000 in
theorem jbx_all (b r pb : Nat) (s : Jbx) (w : World) (h : JbxAt w b r pb s) (hn : s.xs.length ≤ 900000) :
    Calls Try.prog 62 #[.pointer (some ⟨b, 0, none⟩)] w fun e w' => ∃ v, e = .returned v ∧ Row w' 73 7 v (s.xs.map (·.p.cells)) ∧ (∀ b, v.ownBlock = some b → w.heap.size ≤ b) ∧ Keeps [] w w' := by
  have g0 := h.c0
  have hall := Du.all r pb _ w h.row (by intro x hx; obtain ⟨d, _, rfl⟩ := List.mem_map.1 hx; exact ⟨_, _, _, _, _, _, _, _, rfl⟩) (by simpa using hn)
  go_enter Try.func62, Try.ntmps62
  go_wp2_with (fail)
  refine hall.mono ?_
  rintro e w1 ⟨v1, rfl, R1, f1, K1⟩
  clear hall
  obtain ⟨A1, cap1, rfl⟩ := R1.formN (n := s.xs.length) (by simp)
  go_wp2_with (fail)
  go_loopw [3, 15] (fun o i wr => ∃ k : Nat, k ≤ s.xs.length ∧ i = .int .i64 k ∧ Row wr 73 7 o ((s.xs.map (·.p.cells)).take k) ∧ (∀ b, o.ownBlock = some b → w1.heap.size ≤ b) ∧ Keeps [] w1 wr) (fun _ i _ => s.xs.length - (intOf i).toNat)
  case atStart => exact ⟨0, Nat.zero_le _, rfl, Row.nil _ _ _, by simp [Value.ownBlock], Keeps.refl _ _⟩
  case round =>
    obtain ⟨k, hk, rfl, R, hf, K⟩ := hrel
    by_cases hlt : k < s.xs.length
    · have Rr := R1.keeps0 K
      obtain ⟨g, rfl⟩ := Rr.addr (by simp; omega)
      have hxk : (s.xs.map Due.cells)[k]? = some (s.xs[k]).cells := by simp [hlt]
      have hm : ((s.xs.map (·.p.cells)).take k).length = k := by rw [List.length_take]; simp; omega
      have hm1 : (s.xs.map (·.p.cells)).take k ++ [(s.xs[k]).p.cells] = (s.xs.map (·.p.cells)).take (k + 1) := by rw [List.take_succ_eq_append_getElem (by simpa using hlt)]; simp
      have y := fun j hj => Rr.at_ (j := j) hxk hj
      have y0 := y 0 (by decide)
      have y1 := y 1 (by decide)
      have y2 := y 2 (by decide)
      have y3 := y 3 (by decide)
      have y4 := y 4 (by decide)
      have y5 := y 5 (by decide)
      have y6 := y 6 (by decide)
      have y7 := y 7 (by decide)
      clear y
      simp only [Due.cells, List.getElem?_cons_zero, List.getElem?_cons_succ, Nat.add_zero] at y0 y1 y2 y3 y4 y5 y6 y7
      obtain ⟨A, cap, rfl⟩ := R.formN hm
      obtain ⟨v', w3, hrun, R3, f3, K3⟩ := Row.pushK pk_slt 37 R K hf (((Keeps.refl [] wr).alloc (.cells (s.xs[k]).cells.toArray 166)).alloc (.cells (s.xs[k]).p.cells.toArray 73)) (wr.heap.size + 1) 73 (s.xs[k]).p.cells (Blk.newAt (by simp)) rfl (pkt_one _) (by rw [hm]; omega)
      rw [hm1] at R3
      obtain ⟨A', cap', rfl⟩ := R3.formN (n := k + 1) (by rw [List.length_take]; simp; omega)
      have hlt' : (k : Int) < s.xs.length := by omega
      simp only [Pkt.cells, Due.cells] at hrun
      replace hrun : Hid _ := hrun
      generalize s.xs[k] = d at *
      clear hf R hxk Rr
      go_wp2_with (at_builtin; refine wpList_append_run rfl rfl rfl rfl hrun.out rfl ?_)
      go_roundw
      case rel => exact ⟨k + 1, by omega, by go_num, R3, f3, K3⟩
      case measure => simp [intOf]; omega
    · obtain rfl : k = s.xs.length := by omega
      rw [List.take_of_length_le (by simp)] at R
      go_wp2
      go_ret
      exact ⟨_, rfl, R, fun b hb => Nat.le_trans K1.size (hf b hb), K1.trans K (by simp)⟩
end Go.Proofs.Ytjnojomfaikfjaa
