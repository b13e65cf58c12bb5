/- The reference's filter: what it is in memory; To, Put, Counts. -/
import Derived.Test.YtaceikdmepeoiaaFiltE
import Derived.Maps.AppendAt
namespace Go.Proofs.Ytaceikdmepeoiaa
set_option linter.unusedSimpArgs false
set_option linter.unusedVariables false
open Go.RowKit Go.Proofs.YtaceikdmepeoiaaW.PrintLast
/-- A row of one's own: its block. -/
theorem own_form {w : World} {e sz n : Nat} {v : Value} {cs : List Value} (h : w.ownsRow 0 e sz v n cs) :
    (v = .slice none 0 0 ∧ n = 0 ∧ cs = []) ∨ ∃ g cap cur, v = .slice (some ⟨g, 0, none⟩) n cap ∧ Blk w g e cur ∧ n ≤ cap ∧ cap ≤ maxLen ∧ cur.length = cap * sz ∧ cur.take (n * sz) = cs := by
  obtain ⟨hl, h⟩ := h
  rcases h with ⟨hv, hn⟩ | ⟨g, cap, cur, hv, _, hh, h1, h2, h3, h4⟩
  · subst hn
    exact .inl ⟨hv, rfl, List.eq_nil_of_length_eq_zero (by simpa using hl)⟩
  · refine .inr ⟨g, cap, cur.toList, hv, ?_, h1, h2, by simpa using h3, h4⟩
    unfold Blk
    simpa using hh
theorem own_mk {w : World} {e sz n g cap : Nat} {cs cur : List Value} (B : Blk w g e cur) (h1 : n ≤ cap) (h2 : cap ≤ maxLen) (h3 : cur.length = cap * sz) (h4 : cur.take (n * sz) = cs) : w.ownsRow 0 e sz (.slice (some ⟨g, 0, none⟩) n cap) n cs := by
  unfold Blk at B
  refine ⟨?_, .inr ⟨g, cap, cur.toArray, rfl, Nat.zero_le _, B, h1, h2, by simpa using h3, by simpa using h4⟩⟩
  rw [← h4, List.length_take, h3]
  exact Nat.min_eq_left (Nat.mul_le_mul_right _ h1)
theorem own_keeps {w w' : World} {e sz n : Nat} {v : Value} {cs : List Value} {bs : List Nat} (h : w.ownsRow 0 e sz v n cs) (k : Keeps bs w w') (hv : ∀ b, v.ownBlock = some b → b ∉ bs) : w'.ownsRow 0 e sz v n cs := by
  rcases own_form h with ⟨rfl, rfl, rfl⟩ | ⟨g, cap, cur, rfl, B, h1, h2, h3, h4⟩
  · exact ⟨by simp, .inl ⟨rfl, rfl⟩⟩
  · exact own_mk (B.keeps k (hv g rfl)) h1 h2 h3 h4
theorem own_at {w : World} {e sz n g cap : Nat} {cs : List Value} (h : w.ownsRow 0 e sz (.slice (some ⟨g, 0, none⟩) n cap) n cs) {j : Nat} (hj : j < n * sz) : w.cell? ⟨g, j, none⟩ = cs[j]? := by
  rcases own_form h with ⟨h0, _, _⟩ | ⟨g', cap', cur, hv, B, h1, h2, h3, h4⟩
  · cases h0
  · cases hv
    rw [B.cell, ← h4, List.getElem?_take_of_lt hj]
theorem own_lt {w : World} {e sz n : Nat} {v : Value} {cs : List Value} (h : w.ownsRow 0 e sz v n cs) : ∀ b, v.ownBlock = some b → b < w.heap.size := by
  rcases own_form h with ⟨rfl, rfl, rfl⟩ | ⟨g, cap, cur, rfl, B, h1, h2, h3, h4⟩
  · intro b hb; simp [Value.ownBlock] at hb
  · intro b hb; simp [Value.ownBlock] at hb; subst hb; exact B.lt
theorem own_type {w : World} {e sz n t b : Nat} {v : Value} {cs cs' : List Value} (h : w.ownsRow 0 e sz v n cs) (B : Blk w b t cs') (hne : e ≠ t) : v.ownBlock ≠ some b := by
  rcases own_form h with ⟨rfl, rfl, rfl⟩ | ⟨g, cap, cur, rfl, B', h1, h2, h3, h4⟩
  · simp [Value.ownBlock]
  · intro hb; simp [Value.ownBlock] at hb; subst hb; exact B'.ne_ B hne rfl
theorem news_new (w : World) (e : TypeId) (cs : List Value) : ∀ j u, cs[j]? = some u → (w.alloc (.cells cs.toArray e)).cell? ((⟨w.heap.size, 0, none⟩ : Addr).add j) = some u := by
  intro j u hj
  have e1 : (⟨w.heap.size, 0, none⟩ : Addr).add j = ⟨w.heap.size, j, none⟩ := by unfold Addr.add; split <;> simp_all
  rw [e1, (Blk.new w e cs).cell]
  exact hj
structure RFlt where
  W : Int
  now : Int
  least : Bool
  L : List Rdg
structure RefAt (w : World) (m : Nat) (v : Value) (s : RFlt) : Prop where
  blk : Blk w m 30 [.int .u64 s.W, .bool s.least, .int .u64 s.now, v]
  row : w.ownsRow 0 226 2 v s.L.length (s.L.flatMap Rdg.cells)
section
variable {w w' : World} {m : Nat} {v : Value} {s : RFlt} {bs : List Nat}
theorem RefAt.keeps (h : RefAt w m v s) (k : Keeps bs w w') (hm : m ∉ bs) (hv : ∀ b, v.ownBlock = some b → b ∉ bs) : RefAt w' m v s := ⟨h.blk.keeps k hm, own_keeps h.row k hv⟩
theorem RefAt.c0 (h : RefAt w m v s) : w.cell? ⟨m, 0, none⟩ = some (.int .u64 s.W) := (h.blk.cell 0).trans rfl
theorem RefAt.c1 (h : RefAt w m v s) : w.cell? ⟨m, 1, none⟩ = some (.bool s.least) := (h.blk.cell 1).trans rfl
theorem RefAt.c2 (h : RefAt w m v s) : w.cell? ⟨m, 2, none⟩ = some (.int .u64 s.now) := (h.blk.cell 2).trans rfl
theorem RefAt.c3 (h : RefAt w m v s) : w.cell? ⟨m, 3, none⟩ = some v := (h.blk.cell 3).trans rfl
theorem RefAt.ne_ (h : RefAt w m v s) : v.ownBlock ≠ some m := own_type h.row h.blk (by decide)
end
theorem rto_back (m : Nat) (v : Value) (s : RFlt) (t : Int) (w : World) (h : RefAt w m v s) (ht : t < s.now) :
    Calls Try.prog 76 #[.pointer (some ⟨m, 0, none⟩), .int .u64 t] w fun e w' => e = .returned (.int .i64 2) ∧ w' = w := by
  have g2 := h.c2
  go_enter Try.func76, Try.ntmps76
  go_wp2
  go_ret
  exact ⟨rfl, rfl⟩
theorem rto_on (m : Nat) (v : Value) (s : RFlt) (t : Int) (w : World) (h : RefAt w m v s) (ht : s.now ≤ t) :
    Calls Try.prog 76 #[.pointer (some ⟨m, 0, none⟩), .int .u64 t] w fun e w' => e = .returned (.int .i64 0) ∧ RefAt w' m v ⟨s.W, t, s.least, s.L⟩ ∧ Keeps [m] w w' := by
  have g2 := h.c2
  have k2 := h.blk.frozen 2
  have hb := h.blk
  have K0 : Keeps [m] w w := Keeps.refl _ _
  go_enter Try.func76, Try.ntmps76
  go_wp2
  go_ret
  have K1 : Keeps [m] w (w.setCell ⟨m, 2, none⟩ (.int .u64 t)) := (by repeat (first | with_reducible exact K0 | refine Keeps.drew ?_ | refine Keeps.drewN ?_ _ | refine Keeps.alloc ?_ _ | refine Keeps.set_ ?_ (by first | (left; simp; done) | (right; simp; done) | (right; simp; omega) | (right; omega)) _))
  exact ⟨rfl, ⟨(by (repeat (first | with_reducible exact hb | with_reducible apply Blk.drew | with_reducible apply Blk.drewN | with_reducible refine Blk.newAt (by simp; done) | with_reducible apply Blk.alloc | with_reducible apply Blk.set2 | with_reducible apply Blk.far)); (all_goals (first | rfl | assumption | (simp; done) | (simp; omega) | omega))), own_keeps h.row K1 (by intro b hb'; simp; rintro rfl; exact h.ne_ hb')⟩, K1⟩
theorem info_R : (Try.prog.info? 226).map (fun i => (i.zero, i.size, i.bytes)) = some (some (.agg #[.int .u64 0, .int .u64 0]), 2, 16) := by kernel_rfl
theorem rput_back (m : Nat) (v : Value) (s : RFlt) (t x : Int) (w : World) (h : RefAt w m v s) (ht : t < s.now) :
    Calls Try.prog 75 #[.pointer (some ⟨m, 0, none⟩), .int .u64 t, .int .u64 x] w fun e w' => e = .returned (.int .i64 2) ∧ w' = w := by
  go_enter Try.func75, Try.ntmps75
  go_wp2_with (go_at_call 76; refine (rto_back m v s t _ h ht).mono ?_; rintro e w' ⟨rfl, rfl⟩)
  go_ret
  exact ⟨rfl, rfl⟩
set_option maxHeartbeats 1000000 in
theorem rput_on (m : Nat) (v : Value) (s : RFlt) (t x : Int) (w : World) (h : RefAt w m v s) (ht : s.now ≤ t) (hn : s.L.length ≤ 1000000) :
    Calls Try.prog 75 #[.pointer (some ⟨m, 0, none⟩), .int .u64 t, .int .u64 x] w fun e w' => e = .returned (.int .i64 0) ∧
      (∃ v', RefAt w' m v' ⟨s.W, t, s.least, s.L ++ [⟨t, x⟩]⟩ ∧ (v'.ownBlock = v.ownBlock ∨ ∃ b, v'.ownBlock = some b ∧ w.heap.size ≤ b)) ∧ Keeps (m :: v.ownBlock.toList) w w' := by
  obtain ⟨i0, hi0, hii⟩ := Option.map_eq_some_iff.1 info_R
  simp only [Prod.mk.injEq] at hii
  obtain ⟨hi1, hi2, hi3⟩ := hii
  have hto := rto_on m v s t w h ht
  go_enter Try.func75, Try.ntmps75
  go_wp2_with (fail)
  refine hto.mono ?_
  rintro e w1 ⟨rfl, H1, K1⟩
  clear hto h
  have g3 := H1.c3
  have hm := H1.blk.lt
  have hmv := H1.ne_
  have hown := H1.row
  go_wp2_with (at_builtin; refine wpList_append_own_at _ rfl (.tmp 17) (.tmp 21) 28 rfl 0 226 i0 _ 2 16 Try.underlying28 hi0 hi1 hi2 hi3 rfl (by decide) _ _ _ rfl (hown.alloc _) ⟨w1.heap.size, 0, none⟩ 1 1 [.int .u64 t, .int .u64 x] rfl rfl ?c1 ?c2 ?c3 ?c4 ?c5 ?_)
  case c1 => exact news_new w1 _ [.int .u64 t, .int .u64 x]
  case c2 => intro u hu; simp at hu; rcases hu with rfl | rfl <;> rfl
  case c3 => unfold maxLen; omega
  case c4 => omega
  case c5 => simp
  intro v' w2 hown' hg _ hat
  have K2 : Keeps (m :: v.ownBlock.toList) w w2 := ((K1.mono (by simp)).alloc _).trans (Keeps.of_grown (bs := v.ownBlock.toList) hg (by intro k hk; left; simp [hk])) (by intro c hc; left; simp at hc ⊢; exact .inr hc)
  have B2 : Blk w2 m 30 [.int .u64 s.W, .bool s.least, .int .u64 t, v] := by
    have hB : Blk (w1.alloc (.cells #[.int .u64 t, .int .u64 x] 226)) m 30 [.int .u64 s.W, .bool s.least, .int .u64 t, v] := H1.blk.alloc _
    exact hB.keeps (Keeps.of_grown (bs := v.ownBlock.toList) hg (by intro k hk; left; simp [hk])) (by simp; exact hmv)
  obtain ⟨A, cap, hv⟩ : ∃ A cap, v' = .slice A (s.L.length + 1) cap := by
    rcases own_form hown' with ⟨h0, h1, _⟩ | ⟨g, cap, cur, h0, _⟩
    · omega
    · exact ⟨_, _, h0⟩
  have q3 := B2.cell 3
  have p3 := B2.frozen 3
  simp only [List.getElem?_cons_zero, List.getElem?_cons_succ] at q3
  have hvm : v'.ownBlock ≠ some m := own_type hown' B2 (by decide)
  have HO : Hid (w2.ownsRow 0 226 2 v' (s.L.length + 1) (List.flatMap Rdg.cells s.L ++ [.int .u64 t, .int .u64 x])) := hown'
  have HA : Hid (v'.ownBlock = v.ownBlock ∨ ∃ b, v'.ownBlock = some b ∧ w.heap.size ≤ b) := by
    show _ ∨ _
    rcases hat with h | h
    · exact .inl h
    · exact .inr ⟨_, h, by have := K1.size; simp; omega⟩
  clear hat hown' hown hg g3
  subst hv
  go_wp2
  go_ret
  have K3 : Keeps [m] w2 (w2.setCell ⟨m, 3, none⟩ (.slice A (s.L.length + 1) cap)) := (Keeps.refl _ _).set_ (.inl (by simp)) _
  refine ⟨rfl, ⟨_, ⟨?_, ?_⟩, HA.out⟩, ?_⟩
  · exact (by (repeat (first | with_reducible exact B2 | with_reducible apply Blk.drew | with_reducible apply Blk.drewN | with_reducible refine Blk.newAt (by simp; done) | with_reducible apply Blk.alloc | with_reducible apply Blk.set2 | with_reducible apply Blk.far)); (all_goals (first | rfl | assumption | (simp; done) | (simp; omega) | omega)))
  · have hh := own_keeps HO.out K3 (by intro b hb'; simp; rintro rfl; exact hvm hb')
    simpa [Rdg.cells] using hh
  · exact K2.trans K3 (by simp)
end Go.Proofs.Ytaceikdmepeoiaa
