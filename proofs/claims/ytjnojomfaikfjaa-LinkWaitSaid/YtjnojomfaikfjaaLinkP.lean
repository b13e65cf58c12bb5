/- Plain: a link and its parts, and what its acts do. -/
import Derived.Test.YtjnojomfaikfjaaNum
namespace Go.Proofs.Ytjnojomfaikfjaa
set_option linter.unusedSimpArgs false
set_option linter.unusedVariables false
/-- A bucket: tokens, wasted ones, rate, time. -/
structure Bkt where
  tok : Int
  was : Int
  rate : Int
  now : Int
/-- A packet. -/
structure Pkt where
  n : Int
  size : Int
  sent : Int
  first : Int
  del : Int
  at_ : Int
  lim : Bool
deriving DecidableEq
/-- A queue: room, bytes, how many were dropped, their bytes; its packets. -/
structure Que where
  room : Int
  bytes : Int
  dropped : Int
  gone : Int
  xs : List Pkt
/-- A packet, and when it is due. -/
structure Due where
  p : Pkt
  t : Int
/-- A box: delay, jitter, when the last one was due; what is in it. -/
structure Jbx where
  delay : Int
  jit : Int
  last : Int
  xs : List Due
/-- A link: its path, time, counts; bucket, queue, box. -/
structure Lnk where
  ra : Int
  de : Int
  ji : Int
  bu : Int
  now : Int
  came : Int
  served : Int
  delivered : Int
  B : Bkt
  Q : Que
  J : Jbx
/-- time goes on -/
def Bkt.to (s : Bkt) (t : Int) : Bkt := if t ≤ s.now then s else ⟨sat (s.tok + sat (s.rate * (t - s.now))), s.was, s.rate, t⟩
def Bkt.take (s : Bkt) (z : Int) : Bkt := ⟨s.tok - sat (z * 1000000), s.was, s.rate, s.now⟩
def Bkt.waste (s : Bkt) (n : Int) : Bkt := ⟨s.tok - min n s.tok, sat (s.was + min n s.tok), s.rate, s.now⟩
def Que.fits (s : Que) (p : Pkt) : Bool := decide (p.size ≤ s.room - s.bytes)
def Que.put (s : Que) (p : Pkt) : Que := if s.fits p then ⟨s.room, s.bytes + p.size, s.dropped, s.gone, s.xs ++ [p]⟩ else ⟨s.room, s.bytes, sat (s.dropped + 1), sat (s.gone + p.size), s.xs⟩
/-- when a packet is due -/
def Jbx.due (s : Jbx) (now choice : Int) : Int := max s.last (sat (now + (s.delay + min choice s.jit)))
def Jbx.put (s : Jbx) (p : Pkt) (now choice : Int) : Jbx := ⟨s.delay, s.jit, s.due now choice, s.xs ++ [⟨p, s.due now choice⟩]⟩
/-- a box without those that are due -/
def Jbx.out (s : Jbx) (now : Int) : Jbx := ⟨s.delay, s.jit, s.last, s.xs.dropWhile fun d => decide (d.t ≤ now)⟩
def Jbx.outs (s : Jbx) (now : Int) : List Pkt := (s.xs.takeWhile fun d => decide (d.t ≤ now)).map (·.p)
def Lnk.new (ra de ji bu : Int) : Lnk := ⟨ra, de, ji, bu, 0, 0, 0, 0, ⟨0, 0, ra, 0⟩, ⟨bu, 0, 0, 0, []⟩, ⟨de, ji, 0, []⟩⟩
/-- one packet is sent -/
def Lnk.send1 (s : Lnk) (p : Pkt) : Lnk := { s with came := sat (s.came + p.size), Q := s.Q.put p }
def Lnk.send (s : Lnk) : List Pkt → Lnk
  | [] => s
  | p :: l => (s.send1 p).send l
/-- how many of those that are sent are kept -/
def Lnk.kept (s : Lnk) : List Pkt → Nat
  | [] => 0
  | p :: l => (s.Q.fits p).toNat + (s.send1 p).kept l
/-- one packet is served -/
def Lnk.serve1 (s : Lnk) (p : Pkt) (c : Int) : Lnk :=
  { s with B := s.B.take p.size, Q := ⟨s.Q.room, s.Q.bytes - p.size, s.Q.dropped, s.Q.gone, s.Q.xs.tail⟩, served := sat (s.served + p.size), J := s.J.put p s.now c }
/-- packets are served, as far as tokens go: the queue's -/
def Lnk.serve (s : Lnk) : List Pkt → List Int → Lnk
  | [], _ => s
  | p :: l, cs => if sat (p.size * 1000000) ≤ s.B.tok then (s.serve1 p (cs.headD 0)).serve l cs.tail else s
/-- up to the waste: time, tokens, what is served -/
def Lnk.tick1 (s : Lnk) (now : Int) (cs : List Int) : Lnk := ({ s with now := now, B := s.B.to now } : Lnk).serve s.Q.xs cs
def Lnk.wastes (s : Lnk) (n : Int) : Lnk := if s.Q.xs = [] then { s with B := s.B.waste n } else s
def Lnk.outs (s : Lnk) (now : Int) : Lnk := { s with J := s.J.out now, delivered := sadd s.delivered ((s.J.outs now).map (·.size)) }
def Lnk.tick (s : Lnk) (now n : Int) (cs : List Int) : Lnk := ((s.tick1 now cs).wastes n).outs now
/-- what is delivered -/
def Lnk.ticks (s : Lnk) (now n : Int) (cs : List Int) : List Pkt := ((s.tick1 now cs).wastes n).J.outs now
/-- the bytes in the box -/
def Lnk.under (s : Lnk) : Int := sadd 0 (s.J.xs.map (·.p.size))
/-- the numbers of a link are such; at most n packets are in it -/
structure Lnk.Ok (s : Lnk) (n : Nat) : Prop where
  now : U64 s.now
  came : U64 s.came
  served : U64 s.served
  delivered : U64 s.delivered
  tok : U64 s.B.tok
  was : U64 s.B.was
  rate : U64 s.B.rate
  bnow : s.B.now = s.now
  room : U64 s.Q.room
  bytes : s.Q.bytes = tot (s.Q.xs.map (·.size))
  fit : s.Q.bytes ≤ s.Q.room
  dropped : U64 s.Q.dropped
  gone : U64 s.Q.gone
  qs : ∀ p ∈ s.Q.xs, U64 p.size
  delay : U64 s.J.delay
  jit : U64 s.J.jit
  last : U64 s.J.last
  js : ∀ d ∈ s.J.xs, U64 d.p.size ∧ U64 d.t
  len : s.Q.xs.length + s.J.xs.length ≤ n
namespace Lnk.Ok
variable {s : Lnk} {n : Nat}
theorem ub (h : s.Ok n) : U64 s.Q.bytes := by
  have h0 : 0 ≤ s.Q.bytes := by
    rw [h.bytes]
    refine tot_nonneg fun x hx => ?_
    obtain ⟨p, hp, rfl⟩ := List.mem_map.1 hx
    exact (h.qs p hp).1
  exact ⟨h0, Int.le_trans h.fit h.room.2⟩
theorem mono (h : s.Ok n) {m : Nat} (hm : n ≤ m) : s.Ok m := { h with len := Nat.le_trans h.len hm }
theorem new {ra de ji bu : Int} (h1 : U64 ra) (h2 : U64 de) (h3 : U64 ji) (h4 : U64 bu) : (Lnk.new ra de ji bu).Ok 0 := by
  have z : U64 0 := ⟨by decide, by decide⟩
  exact ⟨z, z, z, z, z, z, h1, rfl, h4, rfl, h4.1, z, z, by simp [Lnk.new], h2, h3, z, by simp [Lnk.new], by simp [Lnk.new]⟩
theorem send1 (h : s.Ok n) {p : Pkt} (hp : U64 p.size) : (s.send1 p).Ok (n + 1) := by
  have hb := h.ub
  have c1 : U64 (sat (s.came + p.size)) := sat_u (by have := h.came.1; have := hp.1; omega)
  by_cases c : s.Q.fits p = true
  · have e : s.Q.put p = ⟨s.Q.room, s.Q.bytes + p.size, s.Q.dropped, s.Q.gone, s.Q.xs ++ [p]⟩ := by unfold Que.put; rw [if_pos c]
    have hc : p.size ≤ s.Q.room - s.Q.bytes := of_decide_eq_true c
    unfold Lnk.send1
    rw [e]
    refine { h with came := c1, bytes := ?_, fit := ?_, qs := ?_, len := ?_ }
    · show s.Q.bytes + p.size = tot ((s.Q.xs ++ [p]).map (·.size))
      rw [List.map_append, tot_append, ← h.bytes]; simp [tot]
    · show s.Q.bytes + p.size ≤ s.Q.room; omega
    · intro q hq
      rcases List.mem_append.1 hq with hq | hq
      · exact h.qs q hq
      · rw [List.mem_singleton.1 hq]; exact hp
    · have := h.len; show (s.Q.xs ++ [p]).length + _ ≤ _; simp; omega
  · have e : s.Q.put p = ⟨s.Q.room, s.Q.bytes, sat (s.Q.dropped + 1), sat (s.Q.gone + p.size), s.Q.xs⟩ := by unfold Que.put; rw [if_neg c]
    unfold Lnk.send1
    rw [e]
    exact { h with came := c1, dropped := sat_u (by have := h.dropped.1; omega), gone := sat_u (by have := h.gone.1; have := hp.1; omega), len := by have := h.len; show s.Q.xs.length + s.J.xs.length ≤ _; omega }
theorem send : ∀ (l : List Pkt) {s : Lnk} {n : Nat}, s.Ok n → (∀ p ∈ l, U64 p.size) → (s.send l).Ok (n + l.length)
  | [], _, _, h, _ => h
  | p :: l, s, n, h, hl => by
    have := send l (h.send1 (hl p (by simp))) (fun q hq => hl q (by simp [hq]))
    rw [Lnk.send, List.length_cons]
    exact this.mono (by omega)
theorem serve1 (h : s.Ok n) {p : Pkt} {ps : List Pkt} (hx : s.Q.xs = p :: ps) {c : Int} (hc : U64 c) (ht : sat (p.size * 1000000) ≤ s.B.tok) : (s.serve1 p c).Ok n := by
  have hp : U64 p.size := h.qs p (by rw [hx]; simp)
  have hs : U64 (sat (p.size * 1000000)) := sat_u (Int.mul_nonneg hp.1 (by decide))
  have hd : U64 (s.J.due s.now c) := by
    unfold Jbx.due
    have h1 : U64 (sat (s.now + (s.J.delay + min c s.J.jit))) := sat_u (by have := h.now.1; have := h.delay.1; have := h.jit.1; have := hc.1; omega)
    have := h.last
    unfold U64 at *
    omega
  have hb := h.bytes
  rw [hx] at hb
  have h0 : 0 ≤ tot (ps.map (·.size)) := by
    refine tot_nonneg fun x hx' => ?_
    obtain ⟨q, hq, rfl⟩ := List.mem_map.1 hx'
    exact (h.qs q (by rw [hx]; simp [hq])).1
  simp only [List.map_cons, tot] at hb
  unfold Lnk.serve1 Bkt.take Jbx.put
  refine { h with tok := ⟨by show 0 ≤ s.B.tok - _; omega, by show s.B.tok - _ ≤ _; have := h.tok.2; have := hs.1; omega⟩, served := sat_u (by have := h.served.1; have := hp.1; omega), bytes := ?_, fit := ?_, qs := ?_, last := hd, js := ?_, len := ?_ }
  · show s.Q.bytes - p.size = tot (s.Q.xs.tail.map (·.size)); rw [hx, List.tail_cons]; omega
  · show s.Q.bytes - p.size ≤ s.Q.room; have := h.fit; have := hp.1; omega
  · intro q hq
    have hq' : q ∈ s.Q.xs.tail := hq
    rw [hx] at hq'
    exact h.qs q (by rw [hx]; simp at hq' ⊢; exact .inr hq')
  · intro d hd'
    rcases List.mem_append.1 hd' with h1 | h1
    · exact h.js d h1
    · rw [List.mem_singleton.1 h1]; exact ⟨hp, hd⟩
  · have := h.len; show s.Q.xs.tail.length + (s.J.xs ++ _).length ≤ n; rw [hx] at this ⊢; simp at this ⊢; omega
theorem serve : ∀ (l : List Pkt) (cs : List Int) (s : Lnk), s.Ok n → s.Q.xs = l → (∀ c ∈ cs, U64 c) → (s.serve l cs).Ok n
  | [], _, s, h, _, _ => h
  | p :: l, cs, s, h, hx, hc => by
    rw [Lnk.serve]
    split
    · rename_i ht
      have hc0 : U64 (cs.headD 0) := by cases cs with | nil => exact ⟨by decide, by decide⟩ | cons c cs => exact hc c (by simp)
      exact serve l cs.tail _ (h.serve1 hx hc0 ht) (by show s.Q.xs.tail = l; rw [hx]; rfl) (fun c hc' => hc c (List.mem_of_mem_tail hc'))
    · exact h
theorem to (h : s.Ok n) {t : Int} (ht : s.now ≤ t) (ut : U64 t) : ({ s with now := t, B := s.B.to t } : Lnk).Ok n := by
  have hb := h.bnow
  unfold Bkt.to
  split
  · have e : s.B.now = t := by omega
    exact { h with now := ut, bnow := e }
  · have h1 : 0 ≤ s.B.rate * (t - s.B.now) := Int.mul_nonneg h.rate.1 (by omega)
    have h2 := sat_u h1
    exact { h with now := ut, bnow := rfl, tok := sat_u (by have := h.tok.1; have := h2.1; omega), was := h.was, rate := h.rate }
theorem tick1 (h : s.Ok n) {t : Int} (ht : s.now ≤ t) (ut : U64 t) {cs : List Int} (hc : ∀ c ∈ cs, U64 c) : (s.tick1 t cs).Ok n := serve _ _ _ (h.to ht ut) rfl hc
theorem wastes (h : s.Ok n) {k : Int} (hk : U64 k) : (s.wastes k).Ok n := by
  unfold Lnk.wastes
  split
  · unfold Bkt.waste
    have h1 := h.tok
    have h2 := h.was
    exact { h with tok := by show U64 (s.B.tok - min k s.B.tok); unfold U64 at *; omega, was := sat_u (by unfold U64 at *; omega), rate := h.rate, bnow := h.bnow }
  · exact h
theorem outs (h : s.Ok n) (t : Int) : (s.outs t).Ok n := by
  unfold Lnk.outs
  refine { h with delivered := sadd_u _ _ h.delivered ?_, js := ?_, len := ?_ }
  · intro x hx
    obtain ⟨p, hp, rfl⟩ := List.mem_map.1 hx
    unfold Jbx.outs at hp
    obtain ⟨d, hd, rfl⟩ := List.mem_map.1 hp
    exact (h.js d ((List.takeWhile_sublist _).subset hd)).1
  · intro d hd
    exact h.js d ((List.dropWhile_sublist _).subset hd)
  · have := h.len
    have h1 := (List.dropWhile_sublist (l := s.J.xs) fun d => decide (d.t ≤ t)).length_le
    show s.Q.xs.length + (s.J.xs.dropWhile _).length ≤ n
    omega
theorem tick (h : s.Ok n) {t k : Int} (ht : s.now ≤ t) (ut : U64 t) (hk : U64 k) {cs : List Int} (hc : ∀ c ∈ cs, U64 c) : (s.tick t k cs).Ok n := ((h.tick1 ht ut hc).wastes hk).outs t
end Lnk.Ok
end Go.Proofs.Ytjnojomfaikfjaa
