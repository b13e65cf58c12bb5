/- jitter.Box: out, its closure. -/
import Derived.Test.YtjnojomfaikfjaaJitterD
import Derived.Test.YtjnojomfaikfjaaRangeW
import Derived.RangeFuncBound
import Derived.Shelf.Abstract
import Derived.Shelf.RegionOpen
import Derived.OwnWalkIn
import Derived.TacticsInMore
import Derived.LoopNIn
import Derived.LoopIn
namespace Go.Proofs.Ytjnojomfaikfjaa
set_option linter.unusedSimpArgs false
set_option linter.unusedVariables false
open Go.RowKit Go.Shelf Go.Proofs.YtjnojomfaikfjaaW.PrintLast
attribute [local go_sem] Oper.semAt_some
theorem jbx_outf (b : Nat) (now : Int) (w : World) : Calls Try.prog 101 #[.pointer (some ⟨b, 0, none⟩), .int .u64 now] w fun e w' => ∃ B1 B2, e = .returned (.func (.func 130) #[] #[.pointer (some ⟨B1, 0, none⟩), .pointer (some ⟨B2, 0, none⟩)]) ∧ Blk w' B1 113 [.pointer (some ⟨b, 0, none⟩)] ∧ Blk w' B2 22 [.int .u64 now] ∧ w.heap.size ≤ B1 ∧ w.heap.size ≤ B2 ∧ Keeps [] w w' := by
  go_enter Try.func101, Try.ntmps101
  go_wp2
  go_ret
  exact ⟨_, _, rfl, (Blk.new w _ [.pointer (some ⟨b, 0, none⟩)]).alloc _, Blk.newAt (by simp), Nat.le_refl _, by simp, ((Keeps.refl [] w).alloc _).alloc _⟩
/-- what has come lies in the caller's row -/
structure OutSt (w : World) (r pb B5 : Nat) (pre : List Pkt) (W : World) : Prop where
  K : Keeps [r, pb, B5] w W
  ex : ∃ v, Blk W B5 37 [v] ∧ Row W 73 7 v (pre.map Pkt.cells) ∧ ∀ c, v.ownBlock = some c → w.heap.size ≤ c
theorem OutSt.keeps {w W W' : World} {r pb B5 : Nat} {pre : List Pkt} {bs : List Nat} (h : OutSt w r pb B5 pre W) (k : Keeps bs W W') (hb : ∀ c ∈ bs, c = r ∨ c = pb) (h5 : B5 ∉ bs) (hr : r < w.heap.size) (hp : pb < w.heap.size) : OutSt w r pb B5 pre W' := by
  obtain ⟨K, v, B, R, hf⟩ := h
  refine ⟨K.trans k ?_, v, B.keeps k h5, R.keeps k ?_, hf⟩
  · intro c hc; left; rcases hb c hc with h | h <;> simp [h]
  · intro c hc hm
    have := hf c hc
    rcases hb c hm with h | h <;> omega
theorem rec_keeps {w W W' : World} {Rec : World → Prop} {bs : List Nat} (hRec : ∀ W W', Rec W → (∀ k, w.heap.size ≤ k → k < w.heap.size + 2 → W'.heap[k]? = W.heap[k]?) → Rec W') (h : Rec W) (k : Keeps bs W W') (hb : ∀ c ∈ bs, c < w.heap.size) (hs : w.heap.size + 2 ≤ W.heap.size) : Rec W' :=
  hRec _ _ h fun i h1 h2 => k.block i (by omega) (fun hm => by have := hb i hm; omega)
theorem outs_of {s : Jbx} {now : Int} {pre ds : List Due} (hx : s.xs = pre ++ ds) (hp : ∀ d ∈ pre, d.t ≤ now) (hd : ∀ d ds', ds = d :: ds' → now < d.t) : (s.out now) = ⟨s.delay, s.jit, s.last, ds⟩ ∧ s.outs now = pre.map (·.p) := by
  have key : ∀ (pre ds : List Due), (∀ d ∈ pre, d.t ≤ now) → (∀ d ds', ds = d :: ds' → now < d.t) → (pre ++ ds).dropWhile (fun d => decide (d.t ≤ now)) = ds ∧ (pre ++ ds).takeWhile (fun d => decide (d.t ≤ now)) = pre := by
    intro pre
    induction pre with
    | nil =>
      intro ds _ hd
      cases ds with
      | nil => simp
      | cons d ds =>
        have := hd d ds rfl
        have h' : decide (d.t ≤ now) = false := by simp; omega
        simp [List.dropWhile, List.takeWhile, h']
    | cons a pre ih =>
      intro ds hp hd
      have ha := hp a (by simp)
      obtain ⟨h1, h2⟩ := ih ds (fun d h => hp d (by simp [h])) hd
      simp [List.dropWhile, List.takeWhile, ha, h1, h2]
  obtain ⟨h1, h2⟩ := key pre ds hp hd
  unfold Jbx.out Jbx.outs
  rw [hx, h1, h2]
  exact ⟨rfl, rfl⟩
set_option maxHeartbeats 4000000 in
set_option maxRecDepth 100000 in
theorem out1_in (n l : Nat) (w : World) (b r pb B1 B2 B5 : Nat) (s : Jbx) (now : Int) (hr : r < w.heap.size) (hp : pb < w.heap.size) (hb : b < w.heap.size) (hB1 : B1 < w.heap.size) (hB2 : B2 < w.heap.size) (hB5 : B5 < w.heap.size)
    (n1 : b ≠ B5) (n2 : r ≠ B5) (n3 : pb ≠ B5) (n4 : B1 ≠ B5) (n5 : B2 ≠ B5)
    (Rec : World → Prop) (hRec : ∀ W W', Rec W → (∀ k, w.heap.size ≤ k → k < w.heap.size + 2 → W'.heap[k]? = W.heap[k]?) → Rec W')
    (hY : ∀ (m : Nat) (x : List Pkt × Pkt) (W : World), (OutSt w r pb B5 x.1 W ∧ x.1.length ≤ 900000) → Rec W → YieldAt Fence.wide m Try.prog l #[x.2.val] W fun e W' => e = .returned (.bool true) ∧ (OutSt w r pb B5 (x.1 ++ [x.2]) W' ∧ Near w.heap.size [B5] W W') ∧ Rec W')
    (W1 : World) (hsz : w.heap.size + 2 ≤ W1.heap.size) (hJ : JbxAt W1 b r pb s) (h1 : Blk W1 B1 113 [.pointer (some ⟨b, 0, none⟩)]) (h2 : Blk W1 B2 22 [.int .u64 now]) (h0 : OutSt w r pb B5 [] W1) (hR : Rec W1) (hn : s.xs.length ≤ 900000) :
    CallsIn Fence.wide n Try.prog 130 #[.func (.yield l) #[] #[], .pointer (some ⟨B1, 0, none⟩), .pointer (some ⟨B2, 0, none⟩)] W1 fun e W' => (∃ v, e = .returned v) ∧ (JbxAt W' b r pb (s.out now) ∧ OutSt w r pb B5 (s.outs now) W') ∧ Rec W' := by
  refine callsIn_of_wp Try.func130 rfl trivial ?_ rfl
  simp only [Try.ntmps130, List.size_toArray, List.length_cons, List.length_nil, Nat.reduceAdd, Nat.reduceSub, Array.replicate_succ, Array.replicate_zero, List.push_toArray, List.append_toArray, List.nil_append, List.cons_append]
  gi_wp2
  gi_loopw [4] (fun _ wr => ∃ pre ds, s.xs = pre ++ ds ∧ (∀ d ∈ pre, d.t ≤ now) ∧ JbxAt wr b r pb ⟨s.delay, s.jit, s.last, ds⟩ ∧ Blk wr B1 113 [.pointer (some ⟨b, 0, none⟩)] ∧ Blk wr B2 22 [.int .u64 now] ∧ OutSt w r pb B5 (pre.map (·.p)) wr ∧ Rec wr ∧ w.heap.size + 2 ≤ wr.heap.size) (fun _ wr => ringLen wr r)
  case atStart => exact ⟨[], s.xs, rfl, by simp, hJ, h1, h2, h0, hR, hsz⟩
  case round =>
    obtain ⟨pre, ds, hx, hpre, H, b1, b2, S, hRc, hs⟩ := hrel
    clear h1 h2 h0 hR hJ
    have c1 := b1.cell 0
    have c2 := b2.cell 0
    have c0 := H.c0
    simp only [List.getElem?_cons_zero] at c1 c2
    cases ds with
    | nil =>
      have hat := Du.at_no r 0 0 wr (H.row.c2.trans rfl) (.inr (by omega))
      gi_wp2_with (fail)
      refine in_call hat ?_
      rintro e w2 ⟨rfl, hk⟩
      clear hat
      have hs2 := hk.size
      gi_wp2_with (fail)
      refine bodyPost_ret (results_none rfl _ _ _) rfl ?_
      obtain ⟨e1, e2⟩ := outs_of hx hpre (by intro d ds' h; cases h)
      rw [e1, e2]
      have hk3 := hk.alloc (.cells #[.int .u64 0, .int .u64 0, .int .u64 0, .int .u64 0, .int .u64 0, .int .u64 0, .bool false, .int .u64 0] 166)
      exact ⟨⟨_, rfl⟩, ⟨H.keeps hk3 (by simp) (by simp) (by simp), S.keeps hk3 (by simp) (by simp) hr hp⟩, rec_keeps hRec hRc hk3 (by simp) hs⟩
    | cons d ds =>
      have hat := Du.at_yes r pb d.p.n d.p.size d.p.sent d.p.first d.p.del d.p.at_ d.p.lim d.t 0 _ wr H.row rfl
      simp only [Int.ofNat_zero, Int.natCast_zero] at hat
      by_cases hd : now < d.t
      · gi_wp2_with (fail)
        refine in_call hat ?_
        rintro e w2 ⟨rfl, hk⟩
        clear hat
        have c2' := (b2.keeps hk (by simp)).cell 0
        simp only [List.getElem?_cons_zero] at c2'
        have c3 := cell_alloc c2' (.cells #[.int .u64 d.p.n, .int .u64 d.p.size, .int .u64 d.p.sent, .int .u64 d.p.first, .int .u64 d.p.del, .int .u64 d.p.at_, .bool d.p.lim, .int .u64 d.t] 166)
        gi_wp2_with (fail)
        refine bodyPost_ret (results_none rfl _ _ _) rfl ?_
        obtain ⟨e1, e2⟩ := outs_of hx hpre (by intro d' ds' h; cases h; exact hd)
        rw [e1, e2]
        have hk3 := hk.alloc (.cells #[.int .u64 d.p.n, .int .u64 d.p.size, .int .u64 d.p.sent, .int .u64 d.p.first, .int .u64 d.p.del, .int .u64 d.p.at_, .bool d.p.lim, .int .u64 d.t] 166)
        exact ⟨⟨_, rfl⟩, ⟨H.keeps hk3 (by simp) (by simp) (by simp), S.keeps hk3 (by simp) (by simp) hr hp⟩, rec_keeps hRec hRc hk3 (by simp) hs⟩
      · have hd' : ¬ (now < d.t) := hd
        have hlen : pre.length ≤ 900000 := by rw [hx] at hn; simp at hn; omega
        gi_wp2_with (fail)
        refine in_call hat ?_
        rintro e w2 ⟨rfl, hk⟩
        clear hat
        have c2' := (b2.keeps hk (by simp)).cell 0
        simp only [List.getElem?_cons_zero] at c2'
        have c3 := cell_alloc c2' (.cells #[.int .u64 d.p.n, .int .u64 d.p.size, .int .u64 d.p.sent, .int .u64 d.p.first, .int .u64 d.p.del, .int .u64 d.p.at_, .bool d.p.lim, .int .u64 d.t] 166)
        have hk3 := hk.alloc (.cells #[.int .u64 d.p.n, .int .u64 d.p.size, .int .u64 d.p.sent, .int .u64 d.p.first, .int .u64 d.p.del, .int .u64 d.p.at_, .bool d.p.lim, .int .u64 d.t] 166)
        have H3 := H.keeps hk3 (by simp) (by simp) (by simp)
        have b13 := b1.keeps hk3 (by simp)
        have b23 := b2.keeps hk3 (by simp)
        have S3 := S.keeps hk3 (by simp) (by simp) hr hp
        have R3 := rec_keeps hRec hRc hk3 (by simp) hs
        have c1' := b13.cell 0
        have c0' := H3.c0
        have T3 := Blk.new w2 166 [.int .u64 d.p.n, .int .u64 d.p.size, .int .u64 d.p.sent, .int .u64 d.p.first, .int .u64 d.p.del, .int .u64 d.p.at_, .bool d.p.lim, .int .u64 d.t]
        simp only [List.getElem?_cons_zero] at c1'
        have hs3 := hk3.size
        have hsh := Du.shift_yes r pb d.p.n d.p.size d.p.sent d.p.first d.p.del d.p.at_ d.p.lim d.t (ds.map Due.cells) _ H3.row
        have hlr : ringLen wr r = ds.length + 1 := by rw [ringLen_eq H.row]; simp
        have hsw : wr.heap.size ≤ w2.heap.size := hk.size
        clear hk c0 c1 c2
        gi_wp2_with (fail)
        refine in_call hsh ?_
        rintro e w4 ⟨rfl, hrow4, hk4⟩
        have m1 := H3.ne1
        have m2 := H3.ne2
        have hjr := H3.row.lt
        have B14 := b13.keeps hk4 (by
          obtain ⟨_, _, _, _, h'⟩ := H3.row
          have e1 := b13.ne_ h'.ring (by decide)
          have e2 := b13.ne_ h'.places (by decide)
          simp; exact ⟨e1, e2⟩)
        have B24 := b23.keeps hk4 (by
          obtain ⟨_, _, _, _, h'⟩ := H3.row
          have e1 := b23.ne_ h'.ring (by decide)
          have e2 := b23.ne_ h'.places (by decide)
          simp; exact ⟨e1, e2⟩)
        have H4 : JbxAt w4 b r pb ⟨s.delay, s.jit, s.last, ds⟩ := ⟨H3.blk.keeps hk4 (by simp; exact ⟨m1, m2⟩), hrow4⟩
        have S4 := S3.keeps hk4 (by simp) (by simp; exact ⟨n2.symm, n3.symm⟩) hr hp
        have R4 := rec_keeps hRec R3 hk4 (by simp; exact ⟨hr, hp⟩) (by omega)
        have T4 := T3.keeps hk4 (by simp; omega)
        have hs4 := hk4.size
        clear hsh hrow4 hk4 b13 b23 S3 R3 T3 H3 c2' c3 c1' c0'
        have q0 := T4.cell 0
        have q1 := T4.cell 1
        have q2 := T4.cell 2
        have q3 := T4.cell 3
        have q4 := T4.cell 4
        have q5 := T4.cell 5
        have q6 := T4.cell 6
        simp only [List.getElem?_cons_zero, List.getElem?_cons_succ] at q0 q1 q2 q3 q4 q5 q6
        obtain ⟨fn, tmps, assign, body, hy, hRd⟩ := hY (n - 1) (pre.map (·.p), d.p) w4 ⟨S4, by simpa using hlen⟩ R4
        simp only [Pkt.val] at hy
        gi_wp2_with (fail)
        refine ⟨fun h => by simp [Fence.wide] at h, hRd.mono ?_⟩
        rintro e w5 ⟨rfl, ⟨S5, K5⟩, R5⟩
        have H5 : JbxAt w5 b r pb ⟨s.delay, s.jit, s.last, ds⟩ := ⟨H4.blk.near K5 hb (by simpa using n1), H4.row.near K5 hr hp (by simpa using n2) (by simpa using n3)⟩
        have B15 := B14.near K5 hB1 (by simpa using n4)
        have B25 := B24.near K5 hB2 (by simpa using n5)
        have hs5 := K5.size
        have hl5 : ringLen w5 r = ds.length := by rw [ringLen_eq H5.row]; simp
        clear hRd hy q0 q1 q2 q3 q4 q5 q6 H4 B14 B24 S4 R4 T4
        gi_wp2
        go_roundw
        case rel =>
          refine ⟨pre ++ [d], ds, by rw [hx]; simp, ?_, H5, B15, B25, by simpa using S5, R5, by omega⟩
          intro x hxm
          rcases List.mem_append.1 hxm with h | h
          · exact hpre x h
          · rw [List.mem_singleton.1 h]; omega
        case measure => rw [hl5, hlr]; omega
end Go.Proofs.Ytjnojomfaikfjaa
