/- jitter.Box: Out. -/
import Derived.Test.YtjnojomfaikfjaaJitterE
namespace Go.Proofs.Ytjnojomfaikfjaa
set_option linter.unusedSimpArgs false
set_option linter.unusedVariables false
open Go.RowKit Go.Shelf Go.Proofs.YtjnojomfaikfjaaW.PrintLast
attribute [local go_sem] Oper.semAt_some
theorem JbxAt.turns {B : Nat} {w w' : World} {b r pb : Nat} {s : Jbx} (h : JbxAt w b r pb s) (t : Turns B w w') : JbxAt w' b r pb s := ⟨h.blk.turns t, h.row.turns t⟩
theorem OutSt.turns {w W W' : World} {r pb B5 : Nat} {pre : List Pkt} (h : OutSt w r pb B5 pre W) (t : Turns w.heap.size W W') : OutSt w r pb B5 pre W' := by
  obtain ⟨K, v, B, R, hf⟩ := h
  exact ⟨K.turns t (Nat.le_refl _), v, B.turns t, R.turns t, hf⟩
set_option maxHeartbeats 4000000 in
set_option maxRecDepth 100000 in
theorem jbx_out (b r pb : Nat) (s : Jbx) (now : Int) (w0 : World) (h : JbxAt w0 b r pb s) (hn : s.xs.length ≤ 900000) :
    Calls Try.prog 57 #[.pointer (some ⟨b, 0, none⟩), .int .u64 now] w0 fun e w' => ∃ v, e = .returned v ∧ JbxAt w' b r pb (s.out now) ∧ Row w' 73 7 v ((s.outs now).map Pkt.cells) ∧ (∀ c, v.ownBlock = some c → w0.heap.size ≤ c) ∧ Keeps [r, pb] w0 w' := by
  refine (callsIn_wide (n := 2)).1 ?_
  refine callsIn_of_wp_marks Try.func57 rfl trivial ?_
  simp only [Try.ntmps57, List.size_toArray, List.length_cons, List.length_nil, Nat.reduceAdd, Nat.reduceSub, Array.replicate_succ, Array.replicate_zero, List.push_toArray, List.append_toArray, List.nil_append, List.cons_append]
  gi_wp2_with (fail)
  refine in_call1 (jbx_outf b now _) ?_
  rintro e w ⟨B1, B2, rfl, b1, b2, g1, g2, k1⟩
  have b5 := (Blk.new w0 37 [.slice none 0 0]).keeps k1 (by simp)
  have K1 : Keeps [] w0 w := ((Keeps.refl [] w0).alloc _).trans k1 (by simp)
  have H1 := h.keeps K1 (by simp) (by simp) (by simp)
  have hs0 : w0.heap.size < w.heap.size := b5.lt
  have e1 := h.blk.lt
  have e2 := h.row.lt
  have e3 := b1.lt
  have e4 := b2.lt
  simp only [World.size_alloc] at g1 g2
  clear k1 h
  generalize hb5 : w0.heap.size = B5 at *
  gi_wp2_with (fail)
  refine wp_range (n := 1) (α := List Pkt × Pkt) (gf := 130) rfl (enters_of Try.func130 (by kernel_rfl) rfl) (fun x => #[x.2.val]) (fun _ => rfl)
    (fun x W => OutSt w r pb B5 x.1 W ∧ x.1.length ≤ 900000)
    (fun x W a1 Wa => OutSt w r pb B5 x.1 Wa ∧ x.1.length ≤ 900000 ∧ Near w.heap.size [] W Wa ∧ ∃ Bx, Blk Wa Bx 73 x.2.cells ∧ w.heap.size ≤ Bx ∧ a1 = { tmps := #[.pointer (some ⟨b, 0, none⟩), .int .u64 now, undef, undef, .slice none 0 0, .pointer (some ⟨B5, 0, none⟩), .pointer (some ⟨Bx, 0, none⟩), .pointer (some ⟨b, 0, none⟩), .bool false, .pointer (some ⟨b, 0, none⟩), .int .u64 now, .func (.func 130) #[] #[.pointer (some ⟨B1, 0, none⟩), .pointer (some ⟨B2, 0, none⟩)], x.2.val, undef, undef, undef, undef, undef], defers := [] })
    (fun x W W' => OutSt w r pb B5 (x.1 ++ [x.2]) W' ∧ Near w.heap.size [B5] W W')
    (fun W => JbxAt W b r pb (s.out now) ∧ OutSt w r pb B5 (s.outs now) W)
    ?hM ?hB ?hR ?hassign ?hbody ?hcall ?hdone
  case hM =>
    rintro x W a1 Wa Wb ht ⟨h1, h2, h3, Bx, h4, h5, h6⟩
    exact ⟨h1.turns ht, h2, h3.turns ht, Bx, h4.turns ht, h5, h6⟩
  case hB =>
    rintro x W Wa Wb ht ⟨h1, h2⟩
    exact ⟨h1.turns ht, h2.turns ht⟩
  case hR =>
    rintro W Wb ht ⟨h1, h2⟩
    exact ⟨h1.turns ht, h2.turns ht⟩
  case hassign =>
    rintro m l ⟨pre, p⟩ W K ⟨h1, h2⟩ hK
    have hsW := h1.K.size
    simp only [Pkt.val]
    gi_wp2_with (fail)
    have ka : Keeps [] W (W.alloc (.cells (Pkt.cells p).toArray 73)) := (Keeps.refl [] W).alloc _
    exact hK _ _ (KeepsOthers.alloc _ _) ⟨h1.keeps ka (by simp) (by simp) (by omega) (by omega), h2, Near.of_keeps ka hsW, W.heap.size, Blk.new W _ p.cells, hsW, rfl⟩
  case hbody =>
    rintro m l ⟨pre, p⟩ W a1 Wa ⟨h1, h2, h3, Bx, h4, h5, rfl⟩
    have hsW := h1.K.size
    obtain ⟨K, v, B, R, hf⟩ := h1
    have c5 := B.cell 0
    have f5 := B.frozen 0
    have q0 := h4.cell 0
    have q1 := h4.cell 1
    have q2 := h4.cell 2
    have q3 := h4.cell 3
    have q4 := h4.cell 4
    have q5 := h4.cell 5
    have q6 := h4.cell 6
    simp only [Pkt.cells, List.getElem?_cons_zero, List.getElem?_cons_succ] at c5 q0 q1 q2 q3 q4 q5 q6
    have ka : Keeps [] Wa (Wa.alloc (.cells (Pkt.cells p).toArray 73)) := (Keeps.refl [] Wa).alloc _
    obtain ⟨A, cap, rfl⟩ := R.formN (n := pre.length) (by simp)
    obtain ⟨v', W3, hrun, R3, k3, hat⟩ := Row.push pk_slt 37 (R.keeps0 ka) Wa.heap.size 73 p.cells (Blk.newAt rfl) rfl (pkt_one _) (by simp; dsimp only at h2; omega)
    obtain ⟨A', cap', rfl⟩ := R3.formN (n := pre.length + 1) (by simp)
    have h5v : ∀ c, (Value.slice A pre.length cap).ownBlock = some c → c ≠ B5 := fun c hc => by have := hf c hc; omega
    have k4 : Keeps (Value.slice A pre.length cap).ownBlock.toList Wa W3 := (ka.mono (by simp)).trans k3 (by intro c hc; exact .inl hc)
    have B3 : Blk W3 B5 37 [.slice A pre.length cap] := B.keeps k4 (by intro hm; simp only [Option.mem_toList] at hm; exact h5v _ hm rfl)
    have c53 := B3.cell 0
    have f53 := B3.frozen 0
    simp only [List.getElem?_cons_zero] at c53
    have hs3 : Wa.heap.size ≤ W3.heap.size := k4.size
    have hko : KeepsOthers Wa W3 := KeepsOthers.of_keeps k4 (by intro c hc; simp only [Option.mem_toList] at hc; exact R.blk hc)
    have hnear : Near w.heap.size [B5] W (W3.setCell ⟨B5, 0, none⟩ (.slice A' (pre.length + 1) cap')) := by
      have k5 : Keeps (B5 :: (Value.slice A pre.length cap).ownBlock.toList) Wa (W3.setCell ⟨B5, 0, none⟩ (.slice A' (pre.length + 1) cap')) := (k4.mono (by simp; intro c hc; left; right; exact hc)).set_ (.inl (by simp)) _
      have hs5 := k5.size
      refine ⟨Nat.le_trans h3.size hs5, fun k hk hb => (k5.block k (by have := h3.size; omega) ?_).trans (h3.block k hk (by simp))⟩
      intro hm
      rcases List.mem_cons.1 hm with h | h
      · simp at hb; exact hb h
      · simp only [Option.mem_toList] at h; have := hf k h; omega
    have hfin : OutSt w r pb B5 (pre ++ [p]) (W3.setCell ⟨B5, 0, none⟩ (.slice A' (pre.length + 1) cap')) := by
      have hat' : ∀ c, (Value.slice A' (pre.length + 1) cap').ownBlock = some c → w.heap.size ≤ c := by
        intro c hc
        rcases hat with h | h
        · exact hf c (h.symm.trans hc)
        · rw [h] at hc; cases hc; have := K.size; simp; omega
      refine ⟨(K.trans k4 ?_).set_ (.inl (by simp)) _, _, B3.set_ 0 _, ?_, hat'⟩
      · intro c hc; right; simp only [Option.mem_toList] at hc; exact hf c hc
      · have : Row W3 73 7 (.slice A' (pre.length + 1) cap') ((pre ++ [p]).map Pkt.cells) := by simpa using R3
        refine this.keeps (bs := [B5]) ((Keeps.refl _ _).set_ (.inl (by simp)) _) ?_
        intro c hc; have := hat' c hc; simp; omega
    have hk9 := hko.trans (KeepsOthers.setCell W3 ⟨B5, 0, none⟩ (.slice A' (pre.length + 1) cap'))
    simp only [Pkt.cells] at hrun
    replace hrun : Hid _ := hrun
    clear R3 hat k3 k4 R B K hf
    gi_wp2_with (gi_at_builtin; refine wpListIn_append_run rfl rfl rfl rfl hrun.out rfl ?_)
    all_goals (first | exact hk9 | exact hfin | exact hnear | exact ⟨hfin, hnear⟩)
  case hcall =>
    intro l W1 Rec k1 hRec hR1 hsz hY
    have m1 := b1.ne_ b5 (by decide)
    have m2 := b2.ne_ b5 (by decide)
    refine out1_in 1 l w b r pb B1 B2 B5 s now (by omega) (by omega) (by omega) e3 e4 hs0 (by omega) (by omega) (by omega) m1 m2 Rec hRec hY W1 (by omega) (H1.keeps k1 (by simp) (by simp) (by simp)) (b1.keeps k1 (by simp)) (b2.keeps k1 (by simp)) ?_ hR1 hn
    exact ⟨k1.mono (by simp), _, b5.keeps k1 (by simp), Row.nil _ _ _, by simp [Value.ownBlock]⟩
  case hdone =>
    rintro D W ⟨hJ, K, v, B, R, hf⟩ hD hK
    have c5 := B.cell 0
    simp only [List.getElem?_cons_zero] at c5
    gi_wp2_with (fail)
    refine ⟨by simp, .inl ⟨_, _, rfl, run_takeDeferred hK, ?_⟩⟩
    have hT : Turns w.heap.size W (W.putObj D (.deferred none)) := ⟨D, _, _, hD, hK, rfl, rfl⟩
    refine ⟨_, results_tmp rfl _ _ _, v, rfl, hJ.turns hT, R.turns hT, fun c hc => by have := hf c hc; omega, ?_⟩
    have k5 : Keeps [r, pb] w0 W := (K1.mono (cs := [r, pb]) (by simp)).trans K (by intro c hc; simp only [List.mem_cons, List.not_mem_nil, or_false] at hc ⊢; rcases hc with h | h | h <;> omega)
    exact k5.turns hT (by omega)
end Go.Proofs.Ytjnojomfaikfjaa
