/- A queue's Put, a box's Put, a bucket's To and Take: one contract each. -/
import Derived.Test.YtjnojomfaikfjaaLinkA
import Derived.Test.YtjnojomfaikfjaaJitterF
namespace Go.Proofs.Ytjnojomfaikfjaa
set_option linter.unusedSimpArgs false
set_option linter.unusedVariables false
open Go.RowKit Go.Proofs.YtjnojomfaikfjaaW.PrintLast
theorem que_put (q r pb : Nat) (s : Que) (p : Pkt) (w : World) (h : QueAt w q r pb s) (ur : U64 s.room) (ub : U64 s.bytes) (ud : U64 s.dropped) (ug : U64 s.gone) (up : U64 p.size) (hb : s.bytes ≤ s.room) (hn : s.xs.length ≤ 1000000) :
    Calls Try.prog 59 #[.pointer (some ⟨q, 0, none⟩), p.val] w fun e w' => e = .returned (.bool (s.fits p)) ∧ (∃ pb', QueAt w' q r pb' (s.put p) ∧ (pb' = pb ∨ w.heap.size ≤ pb')) ∧ Keeps [q, r, pb] w w' := by
  by_cases c : p.size ≤ s.room - s.bytes
  · have e : s.fits p = true := decide_eq_true c
    unfold Que.put
    rw [e, if_pos rfl]
    exact que_put_yes q r pb s p w h ur ub up hb c hn
  · have e : s.fits p = false := decide_eq_false c
    unfold Que.put
    rw [e, if_neg (by simp)]
    refine (que_put_no q r pb s p w h ur ub ud ug up hb (by omega)).mono ?_
    rintro e w' ⟨he, h1, h2⟩
    exact ⟨he, ⟨pb, h1, .inl rfl⟩, h2.mono (by simp)⟩
theorem jbx_put (b r pb : Nat) (s : Jbx) (p : Pkt) (now choice : Int) (w : World) (h : JbxAt w b r pb s) (un : U64 now) (ude : U64 s.delay) (uj : U64 s.jit) (uc : U64 choice) (hn : s.xs.length ≤ 1000000) :
    Calls Try.prog 99 #[.pointer (some ⟨b, 0, none⟩), p.val, .int .u64 now, .int .u64 choice] w fun e w' => e = .returned (.int .u64 (s.due now choice)) ∧ (∃ pb', JbxAt w' b r pb' (s.put p now choice) ∧ (pb' = pb ∨ w.heap.size ≤ pb')) ∧ Keeps [b, r, pb] w w' :=
  jbx_put0 b r pb s p now choice (min choice s.jit) (s.due now choice) w h un ude (by unfold U64 at *; omega) (by split <;> omega) (by unfold Jbx.due; split <;> omega) hn
theorem bkt_to (b : Nat) (s : Bkt) (t : Int) (w : World) (h : BktAt w b s) (ok : s.ok) (ut : U64 t) : Calls Try.prog 53 #[.pointer (some ⟨b, 0, none⟩), .int .u64 t] w fun e w' => e = .returned (.tuple #[]) ∧ BktAt w' b (s.to t) ∧ Keeps [b] w w' := by
  by_cases c : t ≤ s.now
  · unfold Bkt.to
    rw [if_pos c]
    refine (bkt_to_off b s t w h c).mono ?_
    rintro e w' ⟨he, hw⟩
    obtain rfl := hw.symm
    exact ⟨he, h, Keeps.refl _ _⟩
  · unfold Bkt.to
    rw [if_neg c]
    exact bkt_to_on b s t w h ok (by omega) ut
theorem bkt_take (b : Nat) (s : Bkt) (z : Int) (w : World) (h : BktAt w b s) (ok : s.ok) (uz : U64 z) : Calls Try.prog 97 #[.pointer (some ⟨b, 0, none⟩), .int .u64 z] w fun e w' => e = .returned (.bool (decide (sat (z * 1000000) ≤ s.tok))) ∧ BktAt w' b (if sat (z * 1000000) ≤ s.tok then s.take z else s) ∧ Keeps [b] w w' := by
  by_cases c : sat (z * 1000000) ≤ s.tok
  · rw [if_pos c, decide_eq_true c]
    exact bkt_take_yes b s z w h ok uz c
  · rw [if_neg c, decide_eq_false c]
    refine (bkt_take_no b s z w h uz (by omega)).mono ?_
    rintro e w' ⟨he, hw⟩
    obtain rfl := hw.symm
    exact ⟨he, h, Keeps.refl _ _⟩
theorem send_take (s : Lnk) : ∀ (l : List Pkt) (k : Nat) (h : k < l.length), s.send (l.take (k + 1)) = (s.send (l.take k)).send1 l[k] ∧ s.kept (l.take (k + 1)) = s.kept (l.take k) + ((s.send (l.take k)).Q.fits l[k]).toNat := by
  intro l k h
  have key : ∀ (m : List Pkt) (s : Lnk) (p : Pkt), s.send (m ++ [p]) = (s.send m).send1 p ∧ s.kept (m ++ [p]) = s.kept m + ((s.send m).Q.fits p).toNat := by
    intro m
    induction m with
    | nil => intro s p; simp [Lnk.send, Lnk.kept]
    | cons a m ih => intro s p; have := ih (s.send1 a) p; simp only [List.cons_append, Lnk.send, Lnk.kept]; rw [this.1, this.2]; exact ⟨rfl, by omega⟩
  rw [List.take_succ_eq_append_getElem h]
  exact key _ _ _
theorem kept_le : ∀ (l : List Pkt) (s : Lnk), s.kept l ≤ l.length
  | [], _ => by simp [Lnk.kept]
  | p :: l, s => by have := kept_le l (s.send1 p); simp only [Lnk.kept, List.length_cons]; cases s.Q.fits p <;> simp <;> omega
end Go.Proofs.Ytjnojomfaikfjaa
