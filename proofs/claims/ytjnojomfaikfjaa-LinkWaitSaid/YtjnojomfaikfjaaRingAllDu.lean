/- The walk of ring.Ring[jitter.due]: All. -/
import Derived.Test.YtjnojomfaikfjaaRingBDu
import Derived.Test.YtjnojomfaikfjaaRowA
namespace Go.Proofs.Ytjnojomfaikfjaa
set_option linter.unusedSimpArgs false
set_option linter.unusedVariables false
open Go.RowKit Go.Proofs.YtjnojomfaikfjaaW.PrintLast
namespace Du
theorem slt : SlT Try.prog 175 166 8 := SlT.of (z := .agg #[.int .u64 0, .int .u64 0, .int .u64 0, .int .u64 0, .int .u64 0, .int .u64 0, .bool false, .int .u64 0]) (by_ := 64) Try.underlying175 (by kernel_rfl) (by decide) rfl (by decide)
set_option maxHeartbeats 4000000 in
set_option maxRecDepth 100000 in
theorem all (r pb : Nat) (xs : List (List Value)) (w : World) (h : At w r pb xs) (hx : ∀ x ∈ xs, ∃ a0 a1 a2 a3 a4 a5 a6 a7, x = [.int .u64 a0, .int .u64 a1, .int .u64 a2, .int .u64 a3, .int .u64 a4, .int .u64 a5, .bool a6, .int .u64 a7]) (hn : xs.length ≤ 900000) :
    Calls Try.prog 104 #[.pointer (some ⟨r, 0, none⟩)] w fun e w' => ∃ v, e = .returned v ∧ Row w' 166 8 v xs ∧ (∀ b, v.ownBlock = some b → w.heap.size ≤ b) ∧ Keeps [] w w' := by
  have g2 := h.c2
  go_enter Try.func104, Try.ntmps104
  go_wp2_with (fail)
  refine (len_any r _ w g2).mono ?_
  rintro e w1 ⟨rfl, hw⟩
  obtain rfl := hw.symm
  go_wp2_with (fail)
  go_loopw [3, 7] (fun o i wr => ∃ k : Nat, k ≤ xs.length ∧ i = .int .i64 k ∧ Row wr 166 8 o (xs.take k) ∧ (∀ b, o.ownBlock = some b → w.heap.size ≤ b) ∧ Keeps [] w wr) (fun _ i _ => xs.length - (intOf i).toNat)
  case atStart => exact ⟨0, Nat.zero_le _, rfl, Row.nil _ _ _, by simp [Value.ownBlock], Keeps.refl _ _⟩
  case round =>
    obtain ⟨k, hk, rfl, R, hf, K⟩ := hrel
    by_cases hlt : k < xs.length
    · have H := h.keeps K (by simp) (by simp)
      obtain ⟨N, C, frm, cells, H⟩ := H
      obtain ⟨a0, a1, a2, a3, a4, a5, a6, a7, hxk⟩ := hx _ (List.getElem_mem hlt)
      have hxk' : xs[k]? = some [.int .u64 a0, .int .u64 a1, .int .u64 a2, .int .u64 a3, .int .u64 a4, .int .u64 a5, .bool a6, .int .u64 a7] := by rw [List.getElem?_eq_getElem hlt, hxk]
      have hn' := H.rb.n_le
      have hpl := place_any r pb N C frm k wr (by omega) H.rb.frm_lt H.most H.c0 H.c1 _ (show Hid _ from rfl)
      have j0 : wr.drew.cell? ⟨pb, YtjnojomfaikfjaaR.slot frm N k * 8 + 0, none⟩ = some (.int .u64 a0) := (H.at_ hxk' (j := 0) (by decide)).trans rfl
      have j1 : wr.drew.cell? ⟨pb, YtjnojomfaikfjaaR.slot frm N k * 8 + 1, none⟩ = some (.int .u64 a1) := (H.at_ hxk' (j := 1) (by decide)).trans rfl
      have j2 : wr.drew.cell? ⟨pb, YtjnojomfaikfjaaR.slot frm N k * 8 + 2, none⟩ = some (.int .u64 a2) := (H.at_ hxk' (j := 2) (by decide)).trans rfl
      have j3 : wr.drew.cell? ⟨pb, YtjnojomfaikfjaaR.slot frm N k * 8 + 3, none⟩ = some (.int .u64 a3) := (H.at_ hxk' (j := 3) (by decide)).trans rfl
      have j4 : wr.drew.cell? ⟨pb, YtjnojomfaikfjaaR.slot frm N k * 8 + 4, none⟩ = some (.int .u64 a4) := (H.at_ hxk' (j := 4) (by decide)).trans rfl
      have j5 : wr.drew.cell? ⟨pb, YtjnojomfaikfjaaR.slot frm N k * 8 + 5, none⟩ = some (.int .u64 a5) := (H.at_ hxk' (j := 5) (by decide)).trans rfl
      have j6 : wr.drew.cell? ⟨pb, YtjnojomfaikfjaaR.slot frm N k * 8 + 6, none⟩ = some (.bool a6) := (H.at_ hxk' (j := 6) (by decide)).trans rfl
      have j7 : wr.drew.cell? ⟨pb, YtjnojomfaikfjaaR.slot frm N k * 8 + 7, none⟩ = some (.int .u64 a7) := (H.at_ hxk' (j := 7) (by decide)).trans rfl
      simp only [Nat.add_zero] at j0
      generalize YtjnojomfaikfjaaR.slot frm N k = s at *
      have hlt' : (k : Int) < xs.length := by omega
      have hl : (xs.take k).length = k := by rw [List.length_take]; omega
      obtain ⟨A, cap, rfl⟩ := R.formN hl
      obtain ⟨v', w3, hrun, R3, K3, hat⟩ := Row.push slt 175 (R.keeps0 (((Keeps.refl [] wr).drew).alloc (.cells #[.int .u64 a0, .int .u64 a1, .int .u64 a2, .int .u64 a3, .int .u64 a4, .int .u64 a5, .bool a6, .int .u64 a7] 166))) wr.heap.size 166 [.int .u64 a0, .int .u64 a1, .int .u64 a2, .int .u64 a3, .int .u64 a4, .int .u64 a5, .bool a6, .int .u64 a7] (Blk.newAt (by simp)) rfl (by simp [Value.oneCell']) (by rw [hl]; omega)
      rw [show xs.take k ++ [[.int .u64 a0, .int .u64 a1, .int .u64 a2, .int .u64 a3, .int .u64 a4, .int .u64 a5, .bool a6, .int .u64 a7]] = xs.take (k + 1) by rw [List.take_succ_eq_append_getElem hlt, hxk]] at R3
      have K4 : Keeps [] w w3 := ((K.drew).alloc (.cells #[.int .u64 a0, .int .u64 a1, .int .u64 a2, .int .u64 a3, .int .u64 a4, .int .u64 a5, .bool a6, .int .u64 a7] 166)).trans K3 (by intro b hb; right; exact hf b (by simpa using hb))
      have hf4 : ∀ b, v'.ownBlock = some b → w.heap.size ≤ b := by
        intro b hb
        rcases hat with h1 | h1
        · exact hf b (h1.symm.trans hb)
        · rw [h1] at hb; cases hb; have := K.size; simp; omega
      obtain ⟨A', cap', rfl⟩ := R3.formN (n := k + 1) (by rw [List.length_take]; omega)
      clear hx hxk H hn' hat R hf K3
      go_wp2_with (fail)
      refine hpl.mono ?_
      rintro e w2 ⟨rfl, rfl⟩
      clear hpl
      replace hrun : Hid _ := hrun
      go_wp2_with (at_builtin; refine wpList_append_run rfl rfl rfl rfl hrun.out rfl ?_)
      go_roundw
      case rel => exact ⟨k + 1, by omega, by go_num, R3, hf4, K4⟩
      case measure => simp [intOf]; omega
    · obtain rfl : k = xs.length := by omega
      rw [List.take_length] at R
      go_wp2
      go_ret
      exact ⟨_, rfl, R, hf, K⟩
end Du
end Go.Proofs.Ytjnojomfaikfjaa
