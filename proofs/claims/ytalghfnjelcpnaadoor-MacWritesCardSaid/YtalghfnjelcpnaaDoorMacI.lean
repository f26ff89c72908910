/- MacSame: what the call returns, for every two texts. Condition: the table 'rounds' holds what the program's text lays. -/
import Derived.Test.YtalghfnjelcpnaaDoorMacH
namespace Go.Proofs.YtalghfnjelcpnaaDoor
set_option linter.unusedVariables false
set_option linter.unusedSimpArgs false
open Go.RowKit Go.Proofs.YtalghfnjelcpnaaDoorW.PrintWords Go.Proofs.YtalghfnjelcpnaaDoor.Db

theorem same4_go (a b : List Int) (hl : a.length = b.length) (hm : (a.length : Int) ≤ 9223372036854775800) (d : Nat) : ∀ (k i : Nat), i ≤ a.length → a.length - i = d → d < k →
    incognitoref01_Same.l0 k a b (i : Int) = some (decide (a.drop i = b.drop i)) := by
  induction d with
  | zero =>
    intro k i h0 h1 hk
    obtain ⟨k, rfl⟩ : ∃ m, k = m + 1 := ⟨k - 1, by omega⟩
    simp only [incognitoref01_Same.l0]
    rw [if_neg (by omega), List.drop_eq_nil_of_le (by omega), List.drop_eq_nil_of_le (by omega)]
    simp
  | succ d ih =>
    intro k i h0 h1 hk
    obtain ⟨k, rfl⟩ : ∃ m, k = m + 1 := ⟨k - 1, by omega⟩
    simp only [incognitoref01_Same.l0]
    have hi : i < a.length := by omega
    have hi' : i < b.length := by omega
    rw [if_pos (by omega), if_pos (by omega), if_pos (by omega)]
    have ea : Go.Proofs.YtalghfnjelcpnaaDoorW.PrintWords.rd a (i : Int) = a[i] := by unfold Go.Proofs.YtalghfnjelcpnaaDoorW.PrintWords.rd; simp [List.getD_eq_getElem?_getD, hi]
    have eb : Go.Proofs.YtalghfnjelcpnaaDoorW.PrintWords.rd b (i : Int) = b[i] := by unfold Go.Proofs.YtalghfnjelcpnaaDoorW.PrintWords.rd; simp [List.getD_eq_getElem?_getD, hi']
    rw [ea, eb, List.drop_eq_getElem_cons hi, List.drop_eq_getElem_cons hi']
    by_cases e : a[i] = b[i]
    · rw [if_pos e, w64 (by omega) (by omega), show (i : Int) + 1 = ((i + 1 : Nat) : Int) by omega, ih k (i + 1) (by omega) (by omega) (by omega), e]
      simp only [List.cons.injEq, true_and]
    · rw [if_neg e]
      simp only [List.cons.injEq, e, false_and, decide_false]
theorem same4_ev (a b : List Int) (hm : (a.length : Int) ≤ 9223372036854775800) : ∀ k, a.length < k → incognitoref01_Same.f k a b = some (decide (a = b)) := by
  intro k hk
  unfold incognitoref01_Same.f
  by_cases e : a.length = b.length
  · rw [if_pos (by omega)]
    have := same4_go a b e hm a.length k 0 (by omega) (by omega) hk
    simpa using this
  · rw [if_neg (by omega)]
    have : a ≠ b := fun h => e (by rw [h])
    simp [this]
theorem rSame_any (A B : Option Addr) (ca cb : Nat) (l m : List Int) (w : World) (hA : Kd.C (Kd.int .u8) w A l.length l) (ha : l.length ≤ ca) (hB : Kd.C (Kd.int .u8) w B m.length m) (hb : m.length ≤ cb) (hl : l.length ≤ 1073741824) :
    Calls Tryd.prog 26 #[.slice A l.length ca, .slice B m.length cb] w fun e w' => e = .returned (.bool (decide (l = m))) ∧ Below w.heap.size w w' := by
  refine (incognitoref01_Same.calls (l.length + 1) A ca l B cb m (decide (l = m)) w hA ha hB hb (same4_ev l m (by omega) _ (by omega))).mono ?_
  rintro e w' ⟨rfl, n, rfl⟩
  exact ⟨rfl, pw_below_drewN (Below.refl _ w) n⟩
theorem gr_le {ps : List (List Int)} (h : gr ps = false) : (∀ p ∈ ps, p.length ≤ 300) ∧ ps.length ≤ 20 := by
  unfold gr at h
  rw [Bool.or_eq_false_iff] at h
  refine ⟨fun p hp => ?_, by have := h.2; simp at this; omega⟩
  have := List.any_eq_false.1 h.1 p hp
  simp at this
  omega
set_option maxHeartbeats 4000000 in
set_option maxRecDepth 100000 in
theorem macSame_any (A B : Option Addr) (ca cb : Nat) (l m : List Int) (w : World) (hR : Rounds w) (hl8 : B8s l) (hm8 : B8s m) (hA : Kd.C (Kd.int .u8) w A l.length l) (ha : l.length ≤ ca) (hB : Kd.C (Kd.int .u8) w B m.length m) (hb : m.length ≤ cb) :
    Calls Tryd.prog 14 #[.slice A l.length ca, .slice B m.length cb] w fun e w' => e = .returned (.bool true) ∧ Below w.heap.size w w' := by
  have HR := Aside0.mk hR
  have HA := Aside0.mk hA
  have HB := Aside0.mk hB
  have Ha := Aside0.mk ha
  have Hb := Aside0.mk hb
  have Hl8 := Aside0.mk hl8
  have Hm8 := Aside0.mk hm8
  clear hR hA hB ha hb hl8 hm8
  obtain ⟨g, hg⟩ : ∃ g, gr [l, m] = g := ⟨_, rfl⟩
  have Hg := Aside0.mk hg
  obtain ⟨s, hs⟩ : ∃ s, decide (l = m) = s := ⟨_, rfl⟩
  have Hs := Aside0.mk hs
  cases g with
  | true =>
    clear hg hs
    go_enter Tryd.func14, Tryd.ntmps14
    go_wp2_with (first
      | (go_at_call 37; refine (wakes4_any _ HR.out).mono ?_; rintro e w1 ⟨rfl, hB1⟩)
      | (go_at_call 38; refine (great4_any (some ⟨w1.heap.size, 0, none⟩) 2 [l, m] _ (arg2m_C w1 A B ca cb l m Ha.out Hb.out (Kd.C_below HA.out hB1) (Kd.C_below HB.out hB1))).mono ?_; rintro e w2 ⟨rfl, rfl⟩; rw [Hg.out]))
    go_ret
    exact ⟨rfl, hB1.alloc hB1.size _⟩
  | false =>
    have Hll := Aside0.mk (show l.length ≤ 300 from (gr_le hg).1 l List.mem_cons_self)
    clear hg hs
    go_enter Tryd.func14, Tryd.ntmps14
    cases s with
    | true =>
      go_wp2_with (first
        | (go_at_call 37; refine (wakes4_any _ HR.out).mono ?_; rintro e w1 ⟨rfl, hB1⟩)
        | (go_at_call 38; refine (great4_any (some ⟨w1.heap.size, 0, none⟩) 2 [l, m] _ (arg2m_C w1 A B ca cb l m Ha.out Hb.out (Kd.C_below HA.out hB1) (Kd.C_below HB.out hB1))).mono ?_; rintro e w2 ⟨rfl, rfl⟩; rw [Hg.out]; have hB2 := hB1.alloc hB1.size (.cells #[.slice A l.length ca, .slice B m.length cb] 22))
        | (go_at_call 26; refine (rSame_any A B ca cb l m _ (Kd.C_below HA.out hB2) Ha.out (Kd.C_below HB.out hB2) Hb.out (by have := Hll.out; omega)).mono ?_; rintro e w3 ⟨rfl, hb3⟩; rw [Hs.out]; replace hB2 := hB2.trans (hb3.mono hB2.size); clear hb3)
        | (go_at_call 45; (refine (mSame_any _ _ _ _ _ _ _ (by first | exact Hl8.out | exact Hm8.out) (by first | exact Hl8.out | exact Hm8.out) (by first | exact Kd.C_below HA.out hB2 | exact Kd.C_below HB.out hB2) (by first | exact Kd.C_below HA.out hB2 | exact Kd.C_below HB.out hB2)).mono ?_; rintro e w3 ⟨rfl, hb3⟩; (first | rw [Hs.out] | rw [decide_eq_true (show l = l from rfl)]); replace hB2 := hB2.trans (hb3.mono hB2.size); clear hb3)))
      go_ret
      exact ⟨rfl, hB2⟩
    | false =>
      go_wp2_with (first
        | (go_at_call 37; refine (wakes4_any _ HR.out).mono ?_; rintro e w1 ⟨rfl, hB1⟩)
        | (go_at_call 38; refine (great4_any (some ⟨w1.heap.size, 0, none⟩) 2 [l, m] _ (arg2m_C w1 A B ca cb l m Ha.out Hb.out (Kd.C_below HA.out hB1) (Kd.C_below HB.out hB1))).mono ?_; rintro e w2 ⟨rfl, rfl⟩; rw [Hg.out]; have hB2 := hB1.alloc hB1.size (.cells #[.slice A l.length ca, .slice B m.length cb] 22))
        | (go_at_call 26; refine (rSame_any A B ca cb l m _ (Kd.C_below HA.out hB2) Ha.out (Kd.C_below HB.out hB2) Hb.out (by have := Hll.out; omega)).mono ?_; rintro e w3 ⟨rfl, hb3⟩; rw [Hs.out]; replace hB2 := hB2.trans (hb3.mono hB2.size); clear hb3)
        | (go_at_call 45; (refine (mSame_any _ _ _ _ _ _ _ (by first | exact Hl8.out | exact Hm8.out) (by first | exact Hl8.out | exact Hm8.out) (by first | exact Kd.C_below HA.out hB2 | exact Kd.C_below HB.out hB2) (by first | exact Kd.C_below HA.out hB2 | exact Kd.C_below HB.out hB2)).mono ?_; rintro e w3 ⟨rfl, hb3⟩; (first | rw [Hs.out] | rw [decide_eq_true (show l = l from rfl)]); replace hB2 := hB2.trans (hb3.mono hB2.size); clear hb3)))
      go_ret
      exact ⟨rfl, hB2⟩
end Go.Proofs.YtalghfnjelcpnaaDoor
