/- jitter.Box: Next. -/
import Derived.Test.YtjnojomfaikfjaaJitterA
import Derived.Test.YtjnojomfaikfjaaRingCDu
import Derived.Test.YtjnojomfaikfjaaFixB
import Derived.Test.YtjnojomfaikfjaaFixC
namespace Go.Proofs.Ytjnojomfaikfjaa
set_option linter.unusedSimpArgs false
set_option linter.unusedVariables false
open Go.RowKit Go.Proofs.YtjnojomfaikfjaaW.PrintLast
theorem jbx_next_yes (b r pb : Nat) (s : Jbx) (d : Due) (ds : List Due) (w : World) (h : JbxAt w b r pb s) (hx : s.xs = d :: ds) :
    Calls Try.prog 72 #[.pointer (some ⟨b, 0, none⟩)] w fun e w' => e = .returned (.tuple #[.int .u64 d.t, .bool true]) ∧ Keeps [] w w' := by
  have g0 := h.c0
  have hl := h.blk.lt
  have hr := h.row
  rw [hx] at hr
  have hat := Du.at_yes r pb d.p.n d.p.size d.p.sent d.p.first d.p.del d.p.at_ d.p.lim d.t 0 _ w hr rfl
  simp only [Int.ofNat_zero, Int.natCast_zero] at hat
  go_enter Try.func72, Try.ntmps72
  go_wp2_with (fail)
  refine hat.mono ?_
  rintro e w1 ⟨rfl, hk⟩
  clear hat
  go_wp2
  go_ret2
  exact ⟨rfl, hk.alloc _⟩
theorem jbx_next_no (b r pb : Nat) (s : Jbx) (w : World) (h : JbxAt w b r pb s) (hx : s.xs = []) :
    Calls Try.prog 72 #[.pointer (some ⟨b, 0, none⟩)] w fun e w' => e = .returned (.tuple #[.int .u64 0, .bool false]) ∧ Keeps [] w w' := by
  have g0 := h.c0
  have hl := h.blk.lt
  have hr := h.row
  rw [hx] at hr
  have hat := Du.at_no r 0 0 w (hr.c2.trans rfl) (.inr (by omega))
  go_enter Try.func72, Try.ntmps72
  go_wp2_with (fail)
  refine hat.mono ?_
  rintro e w1 ⟨rfl, hk⟩
  clear hat
  go_wp2
  go_ret2
  exact ⟨rfl, hk.alloc _⟩
end Go.Proofs.Ytjnojomfaikfjaa
