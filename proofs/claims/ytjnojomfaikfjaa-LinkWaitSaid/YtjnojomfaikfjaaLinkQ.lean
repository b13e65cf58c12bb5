/- Plain: a link's laws: the envelope, the wait, what is served. -/
import Derived.Test.YtjnojomfaikfjaaLinkP
namespace Go.Proofs.Ytjnojomfaikfjaa
set_option linter.unusedSimpArgs false
set_option linter.unusedVariables false
/-- An act: packets of sizes, or a tick. -/
structure LAct where
  tick : Bool
  sizes : List Int
  after : Int
  waste : Int
  choices : List Int
/-- packets of sizes, numbered from one on -/
def pkts (frm : Nat) : List Int → List Pkt
  | [] => []
  | z :: l => ⟨frm, z, 0, 0, 0, 0, false⟩ :: pkts (frm + 1) l
theorem pkts_len : ∀ (l : List Int) (frm : Nat), (pkts frm l).length = l.length
  | [], _ => rfl
  | z :: l, frm => by simp [pkts, pkts_len l]
theorem pkts_size : ∀ (l : List Int) (frm : Nat) (Q : Int → Prop), (∀ z ∈ l, Q z) → ∀ p ∈ pkts frm l, Q p.size
  | [], _, _, _, p, hp => by simp [pkts] at hp
  | z :: l, frm, Q, h, p, hp => by
    simp only [pkts, List.mem_cons] at hp
    rcases hp with rfl | hp
    · exact h z (by simp)
    · exact pkts_size l _ Q (fun y hy => h y (by simp [hy])) p hp
/-- the numbers of packets rise, from one on, up to another one -/
def Rise : Int → Int → List Pkt → Prop
  | a, b, [] => a ≤ b
  | a, b, p :: l => a ≤ p.n ∧ Rise (p.n + 1) b l
theorem Rise.mono : ∀ {l : List Pkt} {a b a' : Int}, Rise a b l → a' ≤ a → Rise a' b l
  | [], _, _, _, h, h' => by unfold Rise at *; omega
  | p :: l, a, b, a', h, h' => ⟨by have := h.1; omega, h.2⟩
theorem Rise.snoc : ∀ {l : List Pkt} {a b : Int} {p : Pkt}, Rise a b l → p.n = b → Rise a (b + 1) (l ++ [p])
  | [], a, b, p, h, e => by unfold Rise at h; exact ⟨by omega, by show p.n + 1 ≤ b + 1; omega⟩
  | q :: l, a, b, p, h, e => ⟨h.1, h.2.snoc e⟩
theorem Rise.top : ∀ {l : List Pkt} {a b : Int}, Rise a b l → Rise a (b + 1) l
  | [], a, b, h => by unfold Rise at *; omega
  | q :: l, a, b, h => ⟨h.1, h.2.top⟩
/-- what the numbers of packets leave behind them -/
def nextOf : Int → List Pkt → Int
  | a, [] => a
  | _, p :: l => nextOf (p.n + 1) l
theorem Rise.drop : ∀ {l m : List Pkt} {a b : Int}, Rise a b (l ++ m) → Rise (nextOf a l) b m
  | [], m, a, b, h => h
  | q :: l, m, a, b, h => (Rise.drop (l := l) h.2)
theorem Rise.head : ∀ {l m : List Pkt} {a b : Int}, Rise a b (l ++ m) → Rise a (nextOf a l) l
  | [], m, a, b, h => Int.le_refl _
  | q :: l, m, a, b, h => ⟨h.1, Rise.head (l := l) h.2⟩
namespace Lnk
theorem tot_pos {l : List Pkt} (h : ∀ p ∈ l, U64 p.size) : 0 ≤ tot (l.map (·.size)) := by
  refine tot_nonneg fun x hx => ?_
  obtain ⟨p, hp, rfl⟩ := List.mem_map.1 hx
  exact (h p hp).1
theorem tot_jpos {l : List Due} (h : ∀ d ∈ l, U64 d.p.size ∧ U64 d.t) : 0 ≤ tot (l.map (·.p.size)) := by
  refine tot_nonneg fun x hx => ?_
  obtain ⟨p, hp, rfl⟩ := List.mem_map.1 hx
  exact (h p hp).1.1
/-- The envelope: frm packets came, k acts were. -/
structure Env (s : Lnk) (ra bu next frm : Int) (k n : Nat) : Prop where
  ok : s.Ok n
  frm0 : 0 ≤ frm
  came : s.came = s.Q.gone + s.Q.bytes + s.served
  sv : s.served = tot (s.J.xs.map (·.p.size)) + s.delivered
  tk : s.served * 1000000 + s.B.was + s.B.tok = s.B.rate * s.now
  cameB : s.came ≤ 1073741824 * frm
  nowB : s.now ≤ 1073741824 * k
  rise : Rise next frm (s.J.xs.map (·.p) ++ s.Q.xs)
  rate : s.B.rate = ra
  raB : ra ≤ 1048576
  room : s.Q.room = bu
variable {s : Lnk} {ra bu next frm : Int} {k n : Nat}
theorem Env.new {de ji : Int} (h1 : U64 ra) (h2 : U64 de) (h3 : U64 ji) (h4 : U64 bu) (hr : ra ≤ 1048576) : (Lnk.new ra de ji bu).Env ra bu 0 0 0 0 :=
  ⟨Lnk.Ok.new h1 h2 h3 h4, by decide, rfl, rfl, by simp [Lnk.new], by simp [Lnk.new], by simp [Lnk.new], by simp [Lnk.new, Rise], rfl, hr, rfl⟩
theorem Env.send1 (h : s.Env ra bu next frm k n) {p : Pkt} (hp : 0 ≤ p.size) (hz : p.size ≤ 1073741824) (hn : p.n = frm) (hf : frm ≤ 4000) : (s.send1 p).Env ra bu next (frm + 1) k (n + 1) := by
  have up : U64 p.size := ⟨hp, by omega⟩
  have hok := h.ok.send1 up
  have hb := h.ok.ub
  have hg := h.ok.gone
  have hs := h.ok.served
  have hB := h.cameB
  have hc := h.came
  have f0 := h.frm0
  have ec : sat (s.came + p.size) = s.came + p.size := sat_id (by omega)
  have eg : sat (s.Q.gone + p.size) = s.Q.gone + p.size := sat_id (by have := hb.1; have := hs.1; omega)
  by_cases c : s.Q.fits p = true
  · have e : s.Q.put p = ⟨s.Q.room, s.Q.bytes + p.size, s.Q.dropped, s.Q.gone, s.Q.xs ++ [p]⟩ := by unfold Que.put; rw [if_pos c]
    unfold Lnk.send1 at hok ⊢
    rw [e, ec] at hok ⊢
    refine { ok := hok, frm0 := by omega, came := ?_, sv := h.sv, tk := h.tk, cameB := ?_, nowB := h.nowB, rise := ?_, rate := h.rate, raB := h.raB, room := h.room }
    · show s.came + p.size = s.Q.gone + (s.Q.bytes + p.size) + s.served; omega
    · show s.came + p.size ≤ _; omega
    · show Rise next (frm + 1) (s.J.xs.map (·.p) ++ (s.Q.xs ++ [p]))
      rw [← List.append_assoc]
      exact h.rise.snoc hn
  · have e : s.Q.put p = ⟨s.Q.room, s.Q.bytes, sat (s.Q.dropped + 1), sat (s.Q.gone + p.size), s.Q.xs⟩ := by unfold Que.put; rw [if_neg c]
    unfold Lnk.send1 at hok ⊢
    rw [e, ec, eg] at hok ⊢
    refine { ok := hok, frm0 := by omega, came := ?_, sv := h.sv, tk := h.tk, cameB := ?_, nowB := h.nowB, rise := h.rise.top, rate := h.rate, raB := h.raB, room := h.room }
    · show s.came + p.size = s.Q.gone + p.size + s.Q.bytes + s.served; omega
    · show s.came + p.size ≤ _; omega
theorem Env.send : ∀ (l : List Int) {s : Lnk} {frm n : Nat}, s.Env ra bu next frm k n → (∀ z ∈ l, 0 ≤ z ∧ z ≤ 1073741824) → frm + l.length ≤ 4000 → (s.send (pkts frm l)).Env ra bu next ((frm + l.length : Nat) : Int) k (n + l.length)
  | [], s, frm, n, h, _, _ => h
  | z :: l, s, frm, n, h, hz, hf => by
    have h1 := h.send1 (p := ⟨frm, z, 0, 0, 0, 0, false⟩) (hz z (by simp)).1 (hz z (by simp)).2 rfl (by simp at hf; omega)
    have h2 := Env.send l (frm := frm + 1) h1 (fun y hy => hz y (by simp [hy])) (by simp at hf; omega)
    rw [pkts, Lnk.send, List.length_cons, show frm + (l.length + 1) = frm + 1 + l.length by omega, show n + (l.length + 1) = n + 1 + l.length by omega]
    exact h2
theorem Env.serve1 (h : s.Env ra bu next frm k n) {p : Pkt} {ps : List Pkt} (hx : s.Q.xs = p :: ps) {c : Int} (hc : U64 c) (ht : sat (p.size * 1000000) ≤ s.B.tok) (hf : frm ≤ 4000) : (s.serve1 p c).Env ra bu next frm k n := by
  have up := h.ok.qs p (by rw [hx]; simp)
  have hb := h.ok.bytes
  have h0 := tot_pos (l := ps) (fun q hq => h.ok.qs q (by rw [hx]; simp [hq]))
  rw [hx] at hb
  simp only [List.map_cons, tot] at hb
  have hB := h.cameB
  have hc' := h.came
  have hg := h.ok.gone
  have hs := h.ok.served
  have u1 := up.1
  have g1 := hg.1
  have s1 := hs.1
  have e1 : sat (p.size * 1000000) = p.size * 1000000 := sat_id (by omega)
  have e2 : sat (s.served + p.size) = s.served + p.size := sat_id (by omega)
  have hok := h.ok.serve1 hx hc ht
  unfold Lnk.serve1 Bkt.take Jbx.put at hok ⊢
  rw [e1, e2] at hok ⊢
  refine { ok := hok, frm0 := h.frm0, came := ?_, sv := ?_, tk := ?_, cameB := h.cameB, nowB := h.nowB, rise := ?_, rate := h.rate, raB := h.raB, room := h.room }
  · show s.came = s.Q.gone + (s.Q.bytes - p.size) + (s.served + p.size); omega
  · show s.served + p.size = tot ((s.J.xs ++ [(⟨p, s.J.due s.now c⟩ : Due)]).map (·.p.size)) + s.delivered
    rw [List.map_append, tot_append, h.sv]; simp [tot]; omega
  · show (s.served + p.size) * 1000000 + s.B.was + (s.B.tok - p.size * 1000000) = s.B.rate * s.now
    rw [← h.tk]; omega
  · show Rise next frm ((s.J.xs ++ [(⟨p, s.J.due s.now c⟩ : Due)]).map (·.p) ++ s.Q.xs.tail)
    have := h.rise
    rw [hx] at this ⊢
    simpa using this
theorem Env.serve : ∀ (l : List Pkt) (cs : List Int) (s : Lnk), s.Env ra bu next frm k n → s.Q.xs = l → (∀ c ∈ cs, U64 c) → frm ≤ 4000 → (s.serve l cs).Env ra bu next frm k n
  | [], _, s, h, _, _, _ => h
  | p :: l, cs, s, h, hx, hc, hf => by
    rw [Lnk.serve]
    split
    · rename_i ht
      have hc0 : U64 (cs.headD 0) := by cases cs with | nil => exact ⟨by decide, by decide⟩ | cons c cs => exact hc c (by simp)
      exact Env.serve l cs.tail _ (h.serve1 hx hc0 ht hf) (by show s.Q.xs.tail = l; rw [hx]; rfl) (fun c hc' => hc c (List.mem_of_mem_tail hc')) hf
    · exact h
theorem to_now {b : Bkt} {t : Int} (h : b.now = t) : b.to t = b := by unfold Bkt.to; rw [if_pos (by omega)]
/-- tokens of a time, without a sum that runs over -/
theorem Env.to_eq (h : s.Env ra bu next frm k n) {d : Int} (h0 : 0 ≤ d) (hd : ra * (s.now + d) ≤ 9223372036854775807) : s.B.to (s.now + d) = ⟨s.B.tok + ra * d, s.B.was, ra, s.now + d⟩ := by
  have hb := h.ok.bnow
  have hr := h.rate
  have r0 := h.ok.rate.1
  have ht := h.ok.tok
  have hk := h.tk
  have w0 := h.ok.was.1
  have s0 := h.ok.served.1
  rw [hr] at hk r0
  have hm : ra * (s.now + d) = ra * s.now + ra * d := Int.mul_add _ _ _
  have hm0 : 0 ≤ ra * d := Int.mul_nonneg r0 h0
  have hn0 : 0 ≤ ra * s.now := Int.mul_nonneg r0 h.ok.now.1
  unfold Bkt.to
  split
  · have : d = 0 := by omega
    subst this
    simp only [Int.mul_zero, Int.add_zero]
    rw [← hr, ← hb]
  · rw [hb, hr, show s.now + d - s.now = d by omega, sat_id (a := ra * d) (by omega), sat_id (by omega)]
theorem Env.to (h : s.Env ra bu next frm k n) {d : Int} {j : Nat} (h0 : 0 ≤ d) (hd : d ≤ 1073741824 * j) (hk : k + j ≤ 1000) : ({ s with now := s.now + d, B := s.B.to (s.now + d) } : Lnk).Env ra bu next frm (k + j) n := by
  have hnb := h.nowB
  have hrb := h.raB
  have n0 := h.ok.now.1
  have r0 : 0 ≤ ra := by rw [← h.rate]; exact h.ok.rate.1
  have hm : ra * (s.now + d) ≤ 1048576 * (s.now + d) := Int.mul_le_mul_of_nonneg_right hrb (by omega)
  have e := h.to_eq h0 (by omega)
  have hok := h.ok.to (t := s.now + d) (by omega) ⟨by omega, by omega⟩
  rw [e] at hok ⊢
  refine { ok := hok, frm0 := h.frm0, came := h.came, sv := h.sv, tk := ?_, cameB := h.cameB, nowB := ?_, rise := h.rise, rate := rfl, raB := h.raB, room := h.room }
  · show s.served * 1000000 + s.B.was + (s.B.tok + ra * d) = ra * (s.now + d)
    have := h.tk
    rw [h.rate] at this
    rw [Int.mul_add]; omega
  · show s.now + d ≤ _; rw [Int.natCast_add]; omega
theorem Env.wastes (h : s.Env ra bu next frm k n) {w : Int} (hw : U64 w) (hk : k ≤ 1000) : (s.wastes w).Env ra bu next frm k n := by
  have hok := h.ok.wastes hw
  have htk := h.tk
  have hnb := h.nowB
  have hrb := h.raB
  have n0 := h.ok.now.1
  have hm : ra * s.now ≤ 1048576 * s.now := Int.mul_le_mul_of_nonneg_right hrb n0
  have s0 := h.ok.served.1
  have t0 := h.ok.tok.1
  rw [h.rate] at htk
  have e : sat (s.B.was + min w s.B.tok) = s.B.was + min w s.B.tok := sat_id (by omega)
  unfold Lnk.wastes at hok ⊢
  split
  · rename_i hx
    rw [if_pos hx] at hok
    unfold Bkt.waste at hok ⊢
    rw [e] at hok ⊢
    refine { h with ok := hok, tk := ?_, rate := h.rate }
    show s.served * 1000000 + (s.B.was + min w s.B.tok) + (s.B.tok - min w s.B.tok) = s.B.rate * s.now
    rw [h.rate]; omega
  · exact h
theorem outs_split (s : Lnk) (t : Int) : s.J.xs.map (·.p) = s.J.outs t ++ (s.J.out t).xs.map (·.p) := by
  unfold Jbx.outs Jbx.out
  rw [← List.map_append, List.takeWhile_append_dropWhile]
theorem Env.outs (h : s.Env ra bu next frm k n) (t : Int) (hf : frm ≤ 4000) : (s.outs t).Env ra bu (nextOf next (s.J.outs t)) frm k n ∧ Rise next (nextOf next (s.J.outs t)) (s.J.outs t) := by
  have hok := h.ok.outs t
  have hsp := outs_split s t
  have hr := h.rise
  rw [hsp, List.append_assoc] at hr
  refine ⟨?_, hr.head⟩
  have hB := h.cameB
  have hc := h.came
  have hg := h.ok.gone.1
  have hb := h.ok.ub.1
  have e0 : tot (s.J.xs.map (·.p.size)) = tot ((s.J.outs t).map (·.size)) + tot ((s.J.out t).xs.map (·.p.size)) := by
    have : s.J.xs.map (·.p.size) = (s.J.xs.map (·.p)).map (·.size) := by simp
    rw [this, hsp, List.map_append, tot_append, List.map_map]; rfl
  have p0 : 0 ≤ tot ((s.J.out t).xs.map (·.p.size)) := tot_jpos fun d hd => h.ok.js d ((List.dropWhile_sublist _).subset hd)
  have hd0 := h.ok.delivered
  have p1 : ∀ p ∈ s.J.outs t, U64 p.size := by
    intro p hp
    unfold Jbx.outs at hp
    obtain ⟨d, hd, rfl⟩ := List.mem_map.1 hp
    exact (h.ok.js d ((List.takeWhile_sublist _).subset hd)).1
  have hsv := h.sv
  have e1 : sadd s.delivered ((s.J.outs t).map (·.size)) = s.delivered + tot ((s.J.outs t).map (·.size)) := by
    rw [sadd_sat _ _ hd0 (by intro x hx; obtain ⟨p, hp, rfl⟩ := List.mem_map.1 hx; exact (p1 p hp).1)]
    exact sat_id (by omega)
  unfold Lnk.outs at hok ⊢
  rw [e1] at hok ⊢
  refine { h with ok := hok, sv := ?_, rise := hr.drop }
  show s.served = tot ((s.J.out t).xs.map (·.p.size)) + (s.delivered + tot ((s.J.outs t).map (·.size)))
  omega
theorem Env.tick (h : s.Env ra bu next frm k n) {d w : Int} {j : Nat} (h0 : 0 ≤ d) (hd : d ≤ 1073741824 * j) (hk : k + j ≤ 1000) (hw : U64 w) {cs : List Int} (hc : ∀ c ∈ cs, U64 c) (hf : frm ≤ 4000) :
    (s.tick (s.now + d) w cs).Env ra bu (nextOf next (s.ticks (s.now + d) w cs)) frm (k + j) n ∧ Rise next (nextOf next (s.ticks (s.now + d) w cs)) (s.ticks (s.now + d) w cs) := by
  have h1 := h.to h0 hd (by omega)
  have h2 : (s.tick1 (s.now + d) cs).Env ra bu next frm (k + j) n := Env.serve _ cs _ h1 rfl hc hf
  have h3 := h2.wastes hw (by omega)
  exact h3.outs (s.now + d) hf
theorem serve_was : ∀ (l : List Pkt) (cs : List Int) (s : Lnk), (s.serve l cs).B.was = s.B.was
  | [], _, _ => rfl
  | p :: l, cs, s => by
    rw [Lnk.serve]
    split
    · rw [serve_was l]; rfl
    · rfl
theorem to_was (b : Bkt) (t : Int) : (b.to t).was = b.was := by unfold Bkt.to; split <;> rfl
/-- something is wasted only if the queue is empty then -/
theorem Env.tick_was (h : s.Env ra bu next frm k n) {d w : Int} {j : Nat} (h0 : 0 ≤ d) (hd : d ≤ 1073741824 * j) (hk : k + j ≤ 1000) (hw : U64 w) {cs : List Int} (hc : ∀ c ∈ cs, U64 c) (hf : frm ≤ 4000) :
    s.B.was ≤ (s.tick (s.now + d) w cs).B.was ∧ (s.B.was < (s.tick (s.now + d) w cs).B.was → (s.tick (s.now + d) w cs).Q.bytes = 0) := by
  have h1 := h.to h0 hd (by omega)
  have h2 : (s.tick1 (s.now + d) cs).Env ra bu next frm (k + j) n := Env.serve _ cs _ h1 rfl hc hf
  have h3 := (h2.wastes hw (by omega)).ok.bytes
  have e : (s.tick1 (s.now + d) cs).B.was = s.B.was := by unfold Lnk.tick1; rw [serve_was]; exact to_was _ _
  show s.B.was ≤ ((s.tick1 (s.now + d) cs).wastes w).B.was ∧ (s.B.was < ((s.tick1 (s.now + d) cs).wastes w).B.was → ((s.tick1 (s.now + d) cs).wastes w).Q.bytes = 0)
  rw [h3]
  have t1 := h2.ok.tok
  have w1 := h2.ok.was
  unfold Lnk.wastes
  split
  · rename_i hx
    refine ⟨?_, fun _ => by show tot (List.map _ (s.tick1 (s.now + d) cs).Q.xs) = 0; rw [hx]; rfl⟩
    show s.B.was ≤ sat ((s.tick1 (s.now + d) cs).B.was + min w (s.tick1 (s.now + d) cs).B.tok)
    rw [e] at w1 ⊢
    unfold sat M64 U64 at *
    split <;> omega
  · exact ⟨by omega, fun h' => by omega⟩
theorem serve_mono : ∀ (l : List Pkt) (cs : List Int) (s : Lnk), s.served ≤ 18446744073709551615 → (∀ p ∈ l, U64 p.size) → s.served ≤ (s.serve l cs).served
  | [], _, _, _, _ => Int.le_refl _
  | p :: l, cs, s, h, hl => by
    rw [Lnk.serve]
    split
    · have hp := (hl p (by simp)).1
      have h1 : s.served ≤ sat (s.served + p.size) := by unfold sat M64; split <;> omega
      exact Int.le_trans h1 (serve_mono l _ (s.serve1 p (cs.headD 0)) (by show sat (s.served + p.size) ≤ _; unfold sat M64; split <;> omega) (fun q hq => hl q (by simp [hq])))
    · exact Int.le_refl _
theorem serve_ge : ∀ (ys zs : List Pkt) (cs : List Int) (s : Lnk), (∀ p ∈ ys ++ zs, U64 p.size) → tot (ys.map (·.size)) * 1000000 ≤ s.B.tok → s.B.tok ≤ 18446744073709551615 → s.served + tot (ys.map (·.size)) ≤ 18446744073709551615 → s.served + tot (ys.map (·.size)) ≤ (s.serve (ys ++ zs) cs).served
  | [], zs, cs, s, hu, _, _, hs => by
    simp only [List.map_nil, tot, Int.add_zero, List.nil_append] at hs ⊢
    exact serve_mono zs cs s hs (by simpa using hu)
  | p :: ys, zs, cs, s, hu, ht, hb, hs => by
    have hp := (hu p (by simp)).1
    have h0 := tot_pos (l := ys) (fun q hq => hu q (by simp [hq]))
    simp only [List.map_cons, tot] at ht hs ⊢
    have e1 : sat (p.size * 1000000) = p.size * 1000000 := sat_id (by omega)
    have e2 : sat (s.served + p.size) = s.served + p.size := sat_id (by omega)
    rw [List.cons_append, Lnk.serve, if_pos (by rw [e1]; omega)]
    have h1 : (s.serve1 p (cs.headD 0)).B.tok = s.B.tok - p.size * 1000000 := by unfold Lnk.serve1 Bkt.take; rw [e1]
    have h2 : (s.serve1 p (cs.headD 0)).served = s.served + p.size := by unfold Lnk.serve1; exact e2
    have h3 := serve_ge ys zs cs.tail (s.serve1 p (cs.headD 0)) (fun q hq => hu q (by simp only [List.cons_append, List.mem_cons]; exact .inr hq)) (by rw [h1]; omega) (by rw [h1]; omega) (by rw [h2]; omega)
    rw [h2] at h3
    omega
theorem send_q : ∀ (l : List Pkt) (s : Lnk), (s.send l).B = s.B ∧ (s.send l).served = s.served ∧ (s.send l).now = s.now ∧ (s.send l).Q.room = s.Q.room ∧ ∃ ext, (s.send l).Q.xs = s.Q.xs ++ ext
  | [], s => ⟨rfl, rfl, rfl, rfl, [], by simp [Lnk.send]⟩
  | p :: l, s => by
    obtain ⟨h1, h2, h3, h4, ext, h5⟩ := send_q l (s.send1 p)
    have hr : (s.send1 p).Q.room = s.Q.room := by show (s.Q.put p).room = _; unfold Que.put; split <;> rfl
    refine ⟨h1, h2, h3, h4.trans hr, ?_⟩
    rw [Lnk.send, h5]
    show ∃ ext', (s.Q.put p).xs ++ ext = s.Q.xs ++ ext'
    unfold Que.put
    split
    · exact ⟨p :: ext, by simp⟩
    · exact ⟨ext, rfl⟩
/-- how long the bytes in the queue need -/
def waits (s : Lnk) (ra : Int) : Int := (s.Q.bytes * 1000000 + ra - 1) / ra
theorem Env.waits_nonneg (h : s.Env ra bu next frm k n) (hr : 1 ≤ ra) (hf : frm ≤ 4000) (hk : k ≤ 900) : 0 ≤ s.waits ra ∧ s.waits ra ≤ 4611686018427387904 ∧ s.Q.bytes * 1000000 ≤ ra * s.waits ra ∧ ra * s.waits ra ≤ 4611686018427387904 ∧ s.Q.bytes ≤ 4398046511104000 := by
  have hb := h.ok.ub.1
  have hB := h.cameB
  have hc := h.came
  have hg := h.ok.gone.1
  have hs := h.ok.served.1
  have hrb := h.raB
  have h1 := Int.mul_ediv_add_emod (s.Q.bytes * 1000000 + ra - 1) ra
  have h2 := Int.emod_nonneg (s.Q.bytes * 1000000 + ra - 1) (b := ra) (by omega)
  have h3 := Int.emod_lt_of_pos (s.Q.bytes * 1000000 + ra - 1) (b := ra) (by omega)
  have h0 : 0 ≤ s.waits ra := Int.ediv_nonneg (by omega) (by omega)
  have h4 : s.waits ra ≤ ra * s.waits ra := by
    have := Int.mul_le_mul_of_nonneg_right hr h0
    omega
  unfold waits at *
  refine ⟨h0, by omega, by omega, by omega, by omega⟩
/-- THE WAIT -/
theorem Env.wait (h : s.Env ra bu next frm k n) (hr : 1 ≤ ra) (hf : frm ≤ 4000) (hk : k ≤ 900) {l : List Pkt} (hl : ∀ p ∈ l, U64 p.size) :
    s.served + s.Q.bytes ≤ ((s.send l).tick (s.now + s.waits ra) 0 []).served := by
  obtain ⟨w0, w1, w2, w3, w4⟩ := h.waits_nonneg hr hf hk
  obtain ⟨e1, e2, e3, _, ext, e4⟩ := send_q l s
  have hok := Lnk.Ok.send l h.ok hl
  have hB := h.cameB
  have hc := h.came
  have hg := h.ok.gone.1
  have hb := h.ok.ub.1
  have hnb := h.nowB
  have hrb := h.raB
  have n0 := h.ok.now.1
  have hm : ra * s.now ≤ 1048576 * s.now := Int.mul_le_mul_of_nonneg_right hrb n0
  have hx := h.to_eq w0 (by rw [Int.mul_add]; omega)
  have ews : ∀ (v : Lnk) (k : Int), (v.wastes k).served = v.served := by intro v k; unfold Lnk.wastes; split <;> rfl
  show _ ≤ (((s.send l).tick1 (s.now + s.waits ra) []).wastes 0).served
  rw [ews]
  unfold Lnk.tick1
  rw [e4, e1, hx]
  have t0 := h.ok.tok.1
  have htk := h.tk
  have s0 := h.ok.served.1
  have v0 := h.ok.was.1
  rw [h.rate] at htk
  have h3 := serve_ge s.Q.xs ext [] { s.send l with now := s.now + s.waits ra, B := ⟨s.B.tok + ra * s.waits ra, s.B.was, ra, s.now + s.waits ra⟩ }
    (fun p hp => hok.qs p (by rw [e4]; exact hp)) (by rw [← h.ok.bytes]; show _ ≤ s.B.tok + ra * s.waits ra; omega) (by show s.B.tok + ra * s.waits ra ≤ _; omega) (by rw [← h.ok.bytes]; show (s.send l).served + _ ≤ _; rw [e2]; omega)
  rw [← h.ok.bytes] at h3
  have h4 : ({ s.send l with now := s.now + s.waits ra, B := ⟨s.B.tok + ra * s.waits ra, s.B.was, ra, s.now + s.waits ra⟩ } : Lnk).served = s.served := e2
  rw [h4] at h3
  exact h3
/-- what is left of tokens, and of packets -/
def srv : Int → List Pkt → Int × List Pkt
  | t, [] => (t, [])
  | t, p :: l => if sat (p.size * 1000000) ≤ t then srv (t - sat (p.size * 1000000)) l else (t, p :: l)
theorem serve_srv : ∀ (l : List Pkt) (cs : List Int) (s : Lnk), s.Q.xs = l → ((s.serve l cs).B.tok, (s.serve l cs).Q.xs) = srv s.B.tok l
  | [], _, s, h => by simp [Lnk.serve, srv, h]
  | p :: l, cs, s, h => by
    rw [Lnk.serve, srv]
    split
    · exact serve_srv l cs.tail (s.serve1 p (cs.headD 0)) (by show s.Q.xs.tail = l; rw [h]; rfl)
    · rw [h]
theorem srv_add : ∀ (l : List Pkt) (t d : Int), 0 ≤ d → srv (t + d) l = srv ((srv t l).1 + d) (srv t l).2
  | [], t, d, _ => by simp [srv]
  | p :: l, t, d, hd => by
    rw [srv]
    by_cases c : sat (p.size * 1000000) ≤ t
    · rw [if_pos (by omega)]
      have e : srv t (p :: l) = srv (t - sat (p.size * 1000000)) l := by rw [srv, if_pos c]
      rw [e, show t + d - sat (p.size * 1000000) = t - sat (p.size * 1000000) + d by omega]
      exact srv_add l _ d hd
    · have e : srv t (p :: l) = (t, p :: l) := by rw [srv, if_neg c]
      rw [e]
      show _ = srv (t + d) (p :: l)
      rw [srv]
theorem Env.tick0 (h : s.Env ra bu next frm k n) {d : Int} {j : Nat} (h0 : 0 ≤ d) (hd : d ≤ 1073741824 * j) (hk : k + j ≤ 1000) (hf : frm ≤ 4000) :
    ((s.tick (s.now + d) 0 []).B.tok, (s.tick (s.now + d) 0 []).Q.xs) = srv (s.B.tok + ra * d) s.Q.xs ∧ (s.tick (s.now + d) 0 []).B.was = s.B.was ∧ (s.tick (s.now + d) 0 []).now = s.now + d ∧ (s.tick (s.now + d) 0 []).Q.gone = s.Q.gone := by
  have z : U64 0 := ⟨by decide, by decide⟩
  have h1 := h.to h0 hd (by omega)
  have h2 : (s.tick1 (s.now + d) []).Env ra bu next frm (k + j) n := Env.serve _ [] _ h1 rfl (by simp) hf
  have hnb := h.nowB
  have hrb := h.raB
  have n0 := h.ok.now.1
  have r0 : 0 ≤ ra := by rw [← h.rate]; exact h.ok.rate.1
  have hm : ra * (s.now + d) ≤ 1048576 * (s.now + d) := Int.mul_le_mul_of_nonneg_right hrb (by omega)
  have hx := h.to_eq h0 (by omega)
  have hsv := serve_srv s.Q.xs [] ({ s with now := s.now + d, B := s.B.to (s.now + d) } : Lnk) rfl
  have e0 : ({ s with now := s.now + d, B := s.B.to (s.now + d) } : Lnk).B.tok = s.B.tok + ra * d := by show (s.B.to (s.now + d)).tok = _; rw [hx]
  rw [e0] at hsv
  have ew : (s.tick1 (s.now + d) []).B.was = s.B.was := by unfold Lnk.tick1; rw [serve_was]; exact to_was _ _
  have sn : ∀ (l : List Pkt) (cs : List Int) (s : Lnk), (s.serve l cs).now = s.now ∧ (s.serve l cs).Q.gone = s.Q.gone := by
    intro l
    induction l with
    | nil => exact fun _ _ => ⟨rfl, rfl⟩
    | cons p l ih =>
      intro cs s
      rw [Lnk.serve]
      split
      · exact ih _ _
      · exact ⟨rfl, rfl⟩
  have t1 := h2.ok.tok
  have w1 := h2.ok.was
  have ez : ((s.tick1 (s.now + d) []).wastes 0).B.tok = (s.tick1 (s.now + d) []).B.tok ∧ ((s.tick1 (s.now + d) []).wastes 0).B.was = (s.tick1 (s.now + d) []).B.was ∧ ((s.tick1 (s.now + d) []).wastes 0).Q = (s.tick1 (s.now + d) []).Q ∧ ((s.tick1 (s.now + d) []).wastes 0).now = (s.tick1 (s.now + d) []).now := by
    unfold Lnk.wastes
    split
    · refine ⟨?_, ?_, rfl, rfl⟩
      · show (s.tick1 (s.now + d) []).B.tok - min 0 (s.tick1 (s.now + d) []).B.tok = _; unfold U64 at t1; omega
      · show sat ((s.tick1 (s.now + d) []).B.was + min 0 (s.tick1 (s.now + d) []).B.tok) = _; unfold U64 at *; rw [show min 0 (s.tick1 (s.now + d) []).B.tok = 0 by omega, sat_id (by omega)]; omega
    · exact ⟨rfl, rfl, rfl, rfl⟩
  refine ⟨?_, ez.2.1.trans ew, ez.2.2.2.trans (sn _ _ _).1, ?_⟩
  · show (((s.tick1 (s.now + d) []).wastes 0).B.tok, ((s.tick1 (s.now + d) []).wastes 0).Q.xs) = _
    rw [ez.1, ez.2.2.1]
    exact hsv
  · show ((s.tick1 (s.now + d) []).wastes 0).Q.gone = _
    rw [ez.2.2.1]
    exact (sn _ _ _).2
/-- SERVED: by one tick, as by one more ahead of it. -/
theorem Env.served (h : s.Env ra bu next frm k n) {a b : Int} (ha : 0 ≤ a) (ha' : a ≤ 1073741824) (hb : 0 ≤ b) (hb' : b ≤ 1073741824) (hk : k ≤ 900) (hf : frm ≤ 4000) :
    let x := s.tick (s.now + (a + b)) 0 []
    let y := (s.tick (s.now + a) 0 []).tick (s.now + a + b) 0 []
    x.served = y.served ∧ x.Q.bytes = y.Q.bytes ∧ x.Q.gone = y.Q.gone ∧ x.B.tok = y.B.tok ∧ x.B.was = y.B.was := by
  intro x y
  have z : U64 0 := ⟨by decide, by decide⟩
  obtain ⟨x1, x2, x3, x4⟩ := h.tick0 (d := a + b) (j := 2) (by omega) (by omega) (by omega) hf
  have X := (h.tick (d := a + b) (j := 2) (w := 0) (cs := []) (by omega) (by omega) (by omega) z (by simp) hf).1
  obtain ⟨y1, y2, y3, y4⟩ := h.tick0 (d := a) (j := 1) (by omega) (by omega) (by omega) hf
  have Y := (h.tick (d := a) (j := 1) (w := 0) (cs := []) (by omega) (by omega) (by omega) z (by simp) hf).1
  obtain ⟨v1, v2, v3, v4⟩ := Y.tick0 (d := b) (j := 1) (by omega) (by omega) (by omega) hf
  have V := (Y.tick (d := b) (j := 1) (w := 0) (cs := []) (by omega) (by omega) (by omega) z (by simp) hf).1
  rw [y3] at v1 v2 v3 v4 V
  have hr0 : 0 ≤ ra * b := Int.mul_nonneg (by rw [← h.rate]; exact h.ok.rate.1) hb
  have e : (x.B.tok, x.Q.xs) = (y.B.tok, y.Q.xs) := by
    show ((s.tick (s.now + (a + b)) 0 []).B.tok, (s.tick (s.now + (a + b)) 0 []).Q.xs) = (((s.tick (s.now + a) 0 []).tick (s.now + a + b) 0 []).B.tok, ((s.tick (s.now + a) 0 []).tick (s.now + a + b) 0 []).Q.xs)
    rw [x1, v1, Int.mul_add, ← Int.add_assoc, srv_add _ _ _ hr0, ← y1]
  simp only [Prod.mk.injEq] at e
  have ew : x.B.was = y.B.was := x2.trans (v2.trans y2).symm
  refine ⟨?_, ?_, x4.trans (v4.trans y4).symm, e.1, ew⟩
  · have t1 := X.tk
    have t2 := V.tk
    rw [X.rate, x3] at t1
    rw [V.rate, v3] at t2
    have e1 : x.B.tok = y.B.tok := e.1
    have n1 : s.now + (a + b) = s.now + a + b := by omega
    rw [n1] at t1
    show (s.tick (s.now + (a + b)) 0 []).served = ((s.tick (s.now + a) 0 []).tick (s.now + a + b) 0 []).served
    have e1' : (s.tick (s.now + (a + b)) 0 []).B.tok = ((s.tick (s.now + a) 0 []).tick (s.now + a + b) 0 []).B.tok := e1
    have ew' : (s.tick (s.now + (a + b)) 0 []).B.was = ((s.tick (s.now + a) 0 []).tick (s.now + a + b) 0 []).B.was := ew
    rw [n1] at e1' ew' ⊢
    omega
  · have b1 := X.ok.bytes
    have b2 := V.ok.bytes
    show (s.tick (s.now + (a + b)) 0 []).Q.bytes = ((s.tick (s.now + a) 0 []).tick (s.now + a + b) 0 []).Q.bytes
    rw [b1, b2]
    have := e.2
    exact congrArg (fun l => tot (l.map (·.size))) this
end Lnk
end Go.Proofs.Ytjnojomfaikfjaa
