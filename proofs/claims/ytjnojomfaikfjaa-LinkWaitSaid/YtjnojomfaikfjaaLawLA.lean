/- goitlaw21: its acts in memory; Fits, small, packets. -/
import Derived.Test.YtjnojomfaikfjaaLinkF
namespace Go.Proofs.Ytjnojomfaikfjaa
set_option linter.unusedSimpArgs false
set_option linter.unusedVariables false
open Go.RowKit Go.Proofs.YtjnojomfaikfjaaW.PrintLast
/-- numbers in a slice that lies below B -/
def Nums (w : World) (B : Nat) (v : Value) (l : List Int) : Prop := (∀ x ∈ l, U64 x) ∧ l.length ≤ maxLen ∧ ∃ A c, v = .slice A l.length c ∧ l.length ≤ c ∧ ∀ k (h : k < l.length), ∃ a, A = some a ∧ w.cell? (a.add k) = some (.int .u64 l[k]) ∧ (a.add k).block < B
theorem Nums.keeps {w w' : World} {B : Nat} {v : Value} {l : List Int} {bs : List Nat} (h : Nums w B v l) (k : Keeps bs w w') (hB : B ≤ w.heap.size) (hb : ∀ b ∈ bs, B ≤ b) : Nums w' B v l := by
  obtain ⟨u, um, A, c, h1, h2, h3⟩ := h
  refine ⟨u, um, A, c, h1, h2, fun i hi => ?_⟩
  obtain ⟨a, e1, e2, e3⟩ := h3 i hi
  exact ⟨a, e1, (k.cell (by omega) (fun hm => by have := hb _ hm; omega)).trans e2, e3⟩
theorem Nums.ch {w : World} {B : Nat} {v : Value} {l : List Int} {bs : List Nat} (h : Nums w B v l) (hB : B ≤ w.heap.size) (hb : ∀ b ∈ bs, B ≤ b) : ChAt w v l bs := by
  obtain ⟨u, um, A, c, h1, h2, h3⟩ := h
  refine ⟨A, c, h1, h2, fun i hi => ?_⟩
  obtain ⟨a, e1, e2, e3⟩ := h3 i hi
  exact ⟨a, e1, e2, fun hm => by have := hb _ hm; omega, by omega⟩
/-- acts in a slice that lies below B -/
def LActs (w : World) (B : Nat) (A : Option Addr) (l : List LAct) : Prop := ∀ k (h : k < l.length), U64 l[k].after ∧ U64 l[k].waste ∧ ∃ a, A = some a ∧ ∃ sv cv, (a.add (k * 5)).block < B ∧ w.cell? (a.add (k * 5)) = some (.bool l[k].tick) ∧ w.cell? ⟨(a.add (k * 5)).block, (a.add (k * 5)).off + 1, none⟩ = some sv ∧ w.cell? ⟨(a.add (k * 5)).block, (a.add (k * 5)).off + 2, none⟩ = some (.int .u64 l[k].after) ∧ w.cell? ⟨(a.add (k * 5)).block, (a.add (k * 5)).off + 3, none⟩ = some (.int .u64 l[k].waste) ∧ w.cell? ⟨(a.add (k * 5)).block, (a.add (k * 5)).off + 4, none⟩ = some cv ∧ Nums w B sv l[k].sizes ∧ Nums w B cv l[k].choices
theorem LActs.keeps {w w' : World} {B : Nat} {A : Option Addr} {l : List LAct} {bs : List Nat} (h : LActs w B A l) (k : Keeps bs w w') (hB : B ≤ w.heap.size) (hb : ∀ b ∈ bs, B ≤ b) : LActs w' B A l := by
  intro i hi
  obtain ⟨u1, u2, a, e1, sv, cv, e2, e3, e4, e5, e6, e7, e8, e9⟩ := h i hi
  have hnb : (a.add (i * 5)).block ∉ bs := fun hm => by have := hb _ hm; omega
  have hlb : (a.add (i * 5)).block < w.heap.size := by omega
  have hk : ∀ o, w'.cell? ⟨(a.add (i * 5)).block, o, none⟩ = w.cell? ⟨(a.add (i * 5)).block, o, none⟩ := fun o => k.cell (p := ⟨(a.add (i * 5)).block, o, none⟩) hlb hnb
  exact ⟨u1, u2, a, e1, sv, cv, e2, (k.cell (by omega) (fun hm => by have := hb _ hm; omega)).trans e3, (hk _).trans e4, (hk _).trans e5, (hk _).trans e6, (hk _).trans e7, e8.keeps k hB hb, e9.keeps k hB hb⟩
/-- acts such as are gone through -/
def LFits (l : List LAct) : Prop := l.length ≤ 60 ∧ ∀ a ∈ l, a.sizes.length ≤ 60 ∧ a.choices.length ≤ 60
set_option maxHeartbeats 4000000 in
set_option maxRecDepth 100000 in
theorem fits_calls (B : Nat) (A : Option Addr) (c : Nat) (l : List LAct) (w : World) (h : LActs w B A l) (hm : l.length ≤ maxLen) :
    Calls Try.prog 10 #[.slice A l.length c] w fun e w' => (e = .returned (.bool false) ∨ e = .returned (.bool true) ∧ LFits l) ∧ w' = w := by
  go_enter Try.func10, Try.ntmps10
  go_wp2_with (fail)
  go_loop [3] (fun i => ∃ k : Nat, k ≤ l.length ∧ k ≤ 61 ∧ i = .int .i64 k ∧ ∀ j (h : j < l.length), j < k → l[j].sizes.length ≤ 60 ∧ l[j].choices.length ≤ 60) (fun i => 61 - (intOf i).toNat)
  case atStart => exact ⟨0, Nat.zero_le _, by omega, rfl, fun j _ h => absurd h (by omega)⟩
  case round =>
    obtain ⟨k, hk, hk61, rfl, hf⟩ := hrel
    by_cases hlt : k < l.length
    · have hlt' : (k : Int) < l.length := by omega
      by_cases h60 : k ≤ 60
      · have h60' : (k : Int) ≤ 60 := by omega
        obtain ⟨-, -, a, rfl, sv, cv, -, -, y1, -, -, y4, ⟨-, -, A1, c1, rfl, -, -⟩, ⟨-, -, A2, c2, rfl, -, -⟩⟩ := h k hlt
        by_cases hs : l[k].sizes.length ≤ 60
        · by_cases hc : l[k].choices.length ≤ 60
          · have hnew : ∀ j (h : j < l.length), j < k + 1 → l[j].sizes.length ≤ 60 ∧ l[j].choices.length ≤ 60 := by
              intro j hj hjk
              by_cases e : j = k
              · subst e; exact ⟨hs, hc⟩
              · exact hf j hj (by omega)
            replace hnew : Hid _ := hnew
            have s1 : ¬ ((60 : Int) < (l[k].sizes.length : Int)) := by omega
            have s2 : ¬ ((60 : Int) < (l[k].choices.length : Int)) := by omega
            clear h hf hs hc
            generalize l[k].sizes.length = n1 at *
            generalize l[k].choices.length = n2 at *
            go_wp2_with (fail)
            go_round
            case rel => exact ⟨k + 1, by omega, by omega, by go_num, hnew.out⟩
            case measure => simp [intOf]; omega
          · have s1 : ¬ ((60 : Int) < (l[k].sizes.length : Int)) := by omega
            have s2 : ((60 : Int) < (l[k].choices.length : Int)) := by omega
            clear h hf hs hc
            generalize l[k].sizes.length = n1 at *
            generalize l[k].choices.length = n2 at *
            go_wp2_with (fail)
            go_ret
            exact ⟨.inl rfl, rfl⟩
        · have s1 : ((60 : Int) < (l[k].sizes.length : Int)) := by omega
          clear h hf hs
          generalize l[k].sizes.length = n1 at *
          go_wp2_with (fail)
          go_ret
          exact ⟨.inl rfl, rfl⟩
      · have h60' : ¬ ((k : Int) ≤ 60) := by omega
        have hl60 : ¬ ((l.length : Int) ≤ 60) := by omega
        clear h hf
        go_wp2_with (fail)
        go_ret
        exact ⟨.inl rfl, rfl⟩
    · obtain rfl : k = l.length := by omega
      by_cases h60 : l.length ≤ 60
      · have hfin : Hid (LFits l) := by
          refine ⟨h60, fun a ha => ?_⟩
          obtain ⟨j, hj, rfl⟩ := List.mem_iff_getElem.1 ha
          exact hf j hj hj
        have h60' : (l.length : Int) ≤ 60 := by omega
        clear h hf h60
        go_wp2_with (fail)
        go_ret
        exact ⟨.inr ⟨rfl, hfin.out⟩, rfl⟩
      · have h60' : ¬ ((l.length : Int) ≤ 60) := by omega
        clear h hf h60
        go_wp2_with (fail)
        go_ret
        exact ⟨.inl rfl, rfl⟩
/-- acts of small numbers -/
def LSmall (ra : Int) (l : List LAct) : Prop := ∀ a ∈ l, a.after ≤ 1073741824 ∧ ra ≤ 1048576 ∧ ∀ z ∈ a.sizes, z ≤ 1073741824
set_option maxHeartbeats 4000000 in
set_option maxRecDepth 100000 in
theorem small_calls (ra de ji bu : Int) (B : Nat) (A : Option Addr) (c : Nat) (l : List LAct) (w : World) (h : LActs w B A l) (hB : B ≤ w.heap.size) (hm : l.length ≤ maxLen) :
    Calls Try.prog 12 #[.agg #[.int .u64 ra, .int .u64 de, .int .u64 ji, .int .u64 bu], .slice A l.length c] w fun e w' => (e = .returned (.bool false) ∨ e = .returned (.bool true) ∧ LSmall ra l) ∧ Keeps [] w w' := by
  have K0 : Keeps [] w (w.alloc (.cells #[.int .u64 ra, .int .u64 de, .int .u64 ji, .int .u64 bu] 24)) := (Keeps.refl [] w).alloc _
  have P := Blk.new w 24 [.int .u64 ra, .int .u64 de, .int .u64 ji, .int .u64 bu]
  have p0 := P.cell 0
  simp only [List.getElem?_cons_zero] at p0
  replace h := h.keeps K0 hB (by simp)
  unfold maxLen at hm
  go_enter Try.func12, Try.ntmps12
  go_wp2_with (fail)
  generalize hW : w.alloc (.cells #[.int .u64 ra, .int .u64 de, .int .u64 ji, .int .u64 bu] 24) = W at *
  generalize w.heap.size = b2 at *
  go_loop [5] (fun i => ∃ k : Nat, k ≤ l.length ∧ i = .int .i64 k ∧ ∀ j (h : j < l.length), j < k → l[j].after ≤ 1073741824 ∧ ra ≤ 1048576 ∧ ∀ z ∈ l[j].sizes, z ≤ 1073741824) (fun i => l.length - (intOf i).toNat)
  case atStart => exact ⟨0, Nat.zero_le _, rfl, fun j _ h => absurd h (by omega)⟩
  case round =>
    obtain ⟨k, hk, rfl, hs⟩ := hrel
    by_cases hlt : k < l.length
    · have hlt' : (k : Int) < l.length := by omega
      obtain ⟨-, -, a, rfl, sv, cv, -, -, y1, y2, -, -, ⟨-, hn60, A1, c1, rfl, -, hz⟩, -⟩ := h k hlt
      unfold maxLen at hn60
      by_cases ha : l[k].after ≤ 1073741824
      · by_cases hr : ra ≤ 1048576
        · have s1 : ¬ ((1073741824 : Int) < l[k].after) := by omega
          have s2 : ¬ ((1048576 : Int) < ra) := by omega
          replace hs : Hid _ := hs
          obtain ⟨n1, hn1⟩ : ∃ n, Hid (n = l[k].sizes.length) := ⟨l[k].sizes.length, show _ = _ from rfl⟩
          rw [← hn1.out] at y1 hn60
          have y1' : W.cell? ⟨(a.add (k * 5)).block, (a.add (k * 5)).off + 1, none⟩ = some (.slice A1 n1 c1) := y1
          clear y1
          have ha' : Hid (l[k].after ≤ 1073741824 ∧ ra ≤ 1048576) := ⟨ha, hr⟩
          generalize hsz : l[k].sizes = zs at *
          generalize hda : l[k].after = da at *
          replace hsz : Hid _ := hsz
          replace hda : Hid _ := hda
          clear ha hr h
          go_wp2_with (fail)
          go_loop [6] (fun i => ∃ q : Nat, q ≤ n1 ∧ i = .int .i64 q ∧ ∀ j (h : j < zs.length), j < q → zs[j] ≤ 1073741824) (fun i => n1 - (intOf i).toNat)
          case atStart => exact ⟨0, Nat.zero_le _, rfl, fun j _ h => absurd h (by omega)⟩
          case round =>
            obtain ⟨q, hq, rfl, hqs⟩ := hrel
            by_cases hql : q < n1
            · have hql' : (q : Int) < n1 := by omega
              have hqz : q < zs.length := by rw [← hn1.out]; exact hql
              obtain ⟨a1, rfl, y6, -⟩ := hz q hqz
              replace hqs : Hid _ := hqs
              by_cases hzq : zs[q] ≤ 1073741824
              · have s3 : ¬ ((1073741824 : Int) < zs[q]) := by omega
                have hnew : Hid (∀ j (h : j < zs.length), j < q + 1 → zs[j] ≤ 1073741824) := by
                  intro j hj hjq
                  by_cases e : j = q
                  · subst e; exact hzq
                  · exact hqs.out j hj (by omega)
                clear hzq hz
                generalize zs[q] = zq at *
                go_wp2_with (fail)
                go_round
                case rel => exact ⟨q + 1, by omega, by go_num, hnew.out⟩
                case measure => simp [intOf]; omega
              · have s3 : ((1073741824 : Int) < zs[q]) := by omega
                clear hzq hz
                generalize zs[q] = zq at *
                go_wp2_with (fail)
                go_ret
                exact ⟨.inl rfl, hW ▸ K0⟩
            · obtain rfl : q = n1 := by omega
              have hnew : Hid (∀ j (h : j < l.length), j < k + 1 → l[j].after ≤ 1073741824 ∧ ra ≤ 1048576 ∧ ∀ z ∈ l[j].sizes, z ≤ 1073741824) := by
                intro j hj hjk
                by_cases e : j = k
                · subst e
                  rw [hda.out]
                  refine ⟨ha'.out.1, ha'.out.2, fun z hz' => ?_⟩
                  rw [hsz.out] at hz'
                  obtain ⟨i, hi, rfl⟩ := List.mem_iff_getElem.1 hz'
                  exact hqs i hi (by rw [hn1.out]; exact hi)
                · exact hs.out j hj (by omega)
              clear hqs hz
              go_wp2_with (fail)
              go_round
              case rel => exact ⟨k + 1, by omega, by go_num, hnew.out⟩
              case measure => simp [intOf]; omega
        · have s1 : ¬ ((1073741824 : Int) < l[k].after) := by omega
          have s2 : ((1048576 : Int) < ra) := by omega
          clear hs ha hr h hz y1 hn60
          generalize l[k].after = da at *
          go_wp2_with (fail)
          go_ret
          exact ⟨.inl rfl, hW ▸ K0⟩
      · have s1 : ((1073741824 : Int) < l[k].after) := by omega
        clear hs ha h hz y1 hn60
        generalize l[k].after = da at *
        go_wp2_with (fail)
        go_ret
        exact ⟨.inl rfl, hW ▸ K0⟩
    · obtain rfl : k = l.length := by omega
      have hfin : Hid (LSmall ra l) := by
        intro a ha
        obtain ⟨j, hj, rfl⟩ := List.mem_iff_getElem.1 ha
        exact hs j hj hj
      clear hs h
      go_wp2_with (fail)
      go_ret
      exact ⟨.inr ⟨rfl, hfin.out⟩, hW ▸ K0⟩
end Go.Proofs.Ytjnojomfaikfjaa
