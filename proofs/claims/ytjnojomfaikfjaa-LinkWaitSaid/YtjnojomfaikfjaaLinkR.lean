/- Plain: a link that nothing was done with; what the laws hold against a link behind any acts. -/
import Derived.Test.YtjnojomfaikfjaaLinkQ
namespace Go.Proofs.Ytjnojomfaikfjaa
set_option linter.unusedSimpArgs false
set_option linter.unusedVariables false
namespace Lnk
theorem tick_now (s : Lnk) (t w : Int) (cs : List Int) : (s.tick t w cs).now = t := by
  have sn : ∀ (l : List Pkt) (cs : List Int) (s : Lnk), (s.serve l cs).now = s.now := by
    intro l
    induction l with
    | nil => exact fun _ _ => rfl
    | cons p l ih =>
      intro cs s
      rw [Lnk.serve]
      split
      · exact ih _ _
      · rfl
  have ew : ∀ (v : Lnk) (k : Int), (v.wastes k).now = v.now := by intro v k; unfold Lnk.wastes; split <;> rfl
  show (((s.tick1 t cs).wastes w)).now = t
  rw [ew]
  exact sn _ _ _
/-- behind k acts that brought f packets: nothing was done; or the envelope -/
def Good (s : Lnk) (ra de ji bu : Int) (f k n : Nat) : Prop := (k = 0 ∧ f = 0 ∧ s = Lnk.new ra de ji bu) ∨ ∃ next, s.Env ra bu next f k n
theorem Good.ok {s : Lnk} {ra de ji bu : Int} {f k n : Nat} (h : s.Good ra de ji bu f k n) (h1 : U64 ra) (h2 : U64 de) (h3 : U64 ji) (h4 : U64 bu) : s.Ok n := by
  rcases h with ⟨_, _, rfl⟩ | ⟨next, h⟩
  · exact (Lnk.Ok.new h1 h2 h3 h4).mono (Nat.zero_le _)
  · exact h.ok
theorem Good.env {s : Lnk} {ra de ji bu : Int} {f k n : Nat} (h : s.Good ra de ji bu f k n) (h1 : U64 ra) (h2 : U64 de) (h3 : U64 ji) (h4 : U64 bu) (hr : ra ≤ 1048576) : ∃ next, s.Env ra bu next f k n := by
  rcases h with ⟨rfl, rfl, rfl⟩ | h
  · exact ⟨0, { Env.new h1 h2 h3 h4 hr with ok := (Lnk.Ok.new h1 h2 h3 h4).mono (Nat.zero_le _) }⟩
  · exact h
theorem Good.now {s : Lnk} {ra de ji bu : Int} {f k n : Nat} (h : s.Good ra de ji bu f k n) (hk : k ≤ 60) : 0 ≤ s.now ∧ s.now ≤ 64424509440 := by
  rcases h with ⟨_, _, rfl⟩ | ⟨next, h⟩
  · exact ⟨Int.le_refl _, by show (0 : Int) ≤ _; decide⟩
  · have := h.nowB; exact ⟨h.ok.now.1, by omega⟩
def idle (ra de ji bu now tok : Int) : Lnk := ⟨ra, de, ji, bu, now, 0, 0, 0, ⟨tok, 0, ra, now⟩, ⟨bu, 0, 0, 0, []⟩, ⟨de, ji, 0, []⟩⟩
theorem new_tick (ra de ji bu now : Int) (tok : Int) (d : Int) (h0 : 0 ≤ d) (ht : U64 tok) (hr : 0 ≤ ra) :
    (idle ra de ji bu now tok).tick (now + d) 0 [] = idle ra de ji bu (now + d) (sat (tok + sat (ra * d))) := by
  have e2 : Bkt.to ⟨tok, 0, ra, now⟩ (now + d) = ⟨sat (tok + sat (ra * d)), 0, ra, now + d⟩ := by
    unfold Bkt.to
    split
    · rename_i h
      have : d = 0 := by dsimp only at h; omega
      subst this
      have z : sat 0 = 0 := sat_id (by decide)
      rw [Int.mul_zero, Int.add_zero, z, Int.add_zero, sat_id ht.2]
    · dsimp only
      rw [show now + d - now = d by omega]
  have hu : U64 (sat (tok + sat (ra * d))) := sat_u (by have := (sat_u (Int.mul_nonneg hr h0)).1; have := ht.1; omega)
  have e1 : (idle ra de ji bu now tok).tick1 (now + d) [] = idle ra de ji bu (now + d) (sat (tok + sat (ra * d))) := by
    show (⟨ra, de, ji, bu, now + d, 0, 0, 0, Bkt.to ⟨tok, 0, ra, now⟩ (now + d), ⟨bu, 0, 0, 0, []⟩, ⟨de, ji, 0, []⟩⟩ : Lnk) = _
    rw [e2]; rfl
  unfold Lnk.tick
  rw [e1]
  generalize sat (tok + sat (ra * d)) = T at *
  have e4 : min 0 T = 0 := by have := hu.1; omega
  have e5 : Bkt.waste ⟨T, 0, ra, now + d⟩ 0 = ⟨T, 0, ra, now + d⟩ := by
    unfold Bkt.waste
    dsimp only
    rw [e4, Int.sub_zero, Int.add_zero, sat_id (by decide)]
  have e3 : (idle ra de ji bu (now + d) T).wastes 0 = idle ra de ji bu (now + d) T := by
    show (⟨ra, de, ji, bu, now + d, 0, 0, 0, Bkt.waste ⟨T, 0, ra, now + d⟩ 0, ⟨bu, 0, 0, 0, []⟩, ⟨de, ji, 0, []⟩⟩ : Lnk) = _
    rw [e5]; rfl
  rw [e3]
  rfl
theorem sat_two {t a b : Int} (ht : 0 ≤ t) (ha : 0 ≤ a) (hb : 0 ≤ b) : sat (sat (t + sat a) + sat b) = sat (t + sat (a + b)) := by
  unfold sat M64
  (repeat' split) <;> omega
/-- SERVED, of any link -/
theorem Good.served {s : Lnk} {ra de ji bu : Int} {f k n : Nat} (h : s.Good ra de ji bu f k n) (hr : U64 ra) {a b : Int} (ha : 0 ≤ a) (ha' : a ≤ 1073741824) (hb : 0 ≤ b) (hb' : b ≤ 1073741824) (hk : k ≤ 60) (hf : f ≤ 4000) :
    let x := s.tick (s.now + a + b) 0 []
    let y := (s.tick (s.now + a) 0 []).tick (s.now + a + b) 0 []
    x.served = y.served ∧ x.Q.bytes = y.Q.bytes ∧ x.Q.gone = y.Q.gone ∧ x.B.tok = y.B.tok ∧ x.B.was = y.B.was := by
  rcases h with ⟨_, _, rfl⟩ | ⟨next, h⟩
  · intro x y
    have z : U64 0 := ⟨by decide, by decide⟩
    have ex : x = idle ra de ji bu (0 + (a + b)) (sat (0 + sat (ra * (a + b)))) := by
      have := new_tick ra de ji bu 0 0 (a + b) (by omega) z hr.1
      rw [← this]
      show (idle ra de ji bu 0 0).tick (0 + a + b) 0 [] = _
      rw [Int.add_assoc]
    have ey : y = idle ra de ji bu (0 + a + b) (sat (sat (0 + sat (ra * a)) + sat (ra * b))) := by
      show ((idle ra de ji bu 0 0).tick (0 + a) 0 []).tick (0 + a + b) 0 [] = _
      rw [new_tick ra de ji bu 0 0 a ha z hr.1]
      exact new_tick ra de ji bu (0 + a) _ b hb (sat_u (by have := (sat_u (Int.mul_nonneg hr.1 ha)).1; omega)) hr.1
    have ht : sat (sat (0 + sat (ra * a)) + sat (ra * b)) = sat (0 + sat (ra * (a + b))) := by
      rw [Int.mul_add]
      exact sat_two (Int.le_refl _) (Int.mul_nonneg hr.1 ha) (Int.mul_nonneg hr.1 hb)
    rw [ex, ey]
    exact ⟨rfl, rfl, rfl, ht.symm, rfl⟩
  · have := h.served ha ha' hb hb' (by omega) (by omega)
    rw [← Int.add_assoc] at this
    exact this
/-- THE WAIT, of any link -/
theorem Good.wait {s : Lnk} {ra de ji bu : Int} {f k n : Nat} (h : s.Good ra de ji bu f k n) (hr : 1 ≤ ra) (hr2 : ra ≤ 1099511627776) (hb : 1 ≤ bu) (hu : U64 ra) (hd : U64 de) (hj : U64 ji) (hbu : U64 bu) (hk : k ≤ 60) (hf : f ≤ 4000) {l : List Pkt} (hl : ∀ p ∈ l, U64 p.size) :
    0 ≤ s.Q.bytes ∧ s.Q.bytes ≤ 4294967296000 ∧ s.Q.bytes ≤ bu ∧ 0 ≤ s.waits ra ∧ s.waits ra ≤ 4611686018427387904 ∧ 0 ≤ s.served ∧ s.served + s.Q.bytes ≤ 4294967296000 ∧ s.served + s.Q.bytes ≤ ((s.send l).tick (s.now + s.waits ra) 0 []).served := by
  rcases h with ⟨_, _, rfl⟩ | ⟨next, h⟩
  · have hw : (Lnk.new ra de ji bu).waits ra = 0 := by
      show (0 * 1000000 + ra - 1) / ra = 0
      rw [show (0 : Int) * 1000000 + ra - 1 = ra - 1 by omega]
      exact Int.ediv_eq_zero_of_lt (by omega) (by omega)
    have hok := Lnk.Ok.send l (Lnk.Ok.new hu hd hj hbu) hl
    have hn : (Lnk.new ra de ji bu).now = 0 := rfl
    have hln : ((Lnk.new ra de ji bu).send l).now = 0 := (send_q l _).2.2.1
    have hs := (hok.tick (t := 0) (k := 0) (cs := []) (by rw [hln]; exact Int.le_refl _) ⟨by decide, by decide⟩ ⟨by decide, by decide⟩ (by simp)).served.1
    rw [hw, hn]
    exact ⟨Int.le_refl _, by show (0 : Int) ≤ 4294967296000; decide, by show (0 : Int) ≤ _; omega, Int.le_refl _, by decide, Int.le_refl _, by show (0 : Int) + 0 ≤ 4294967296000; decide, by show (0 : Int) + 0 ≤ _; exact hs⟩
  · obtain ⟨w0, w1, w2, w3, w4⟩ := h.waits_nonneg hr (by omega) (by omega)
    have hb0 := h.ok.ub.1
    have hs0 := h.ok.served.1
    have hg := h.ok.gone.1
    have hc := h.came
    have hB := h.cameB
    have hfit := h.ok.fit
    rw [h.room] at hfit
    exact ⟨hb0, by omega, hfit, w0, w1, hs0, by omega, h.wait hr (by omega) (by omega) hl⟩
end Lnk
end Go.Proofs.Ytjnojomfaikfjaa
