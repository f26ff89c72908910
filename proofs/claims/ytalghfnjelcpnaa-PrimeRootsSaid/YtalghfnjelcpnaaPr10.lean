-- PRINTED by print.py (a twelfth state) out of the translation. Not trusted: Lean checks it.
import Derived.Test.YtalghfnjelcpnaaPr0
import Derived.Test.YtalghfnjelcpnaaPr1
import Derived.Test.YtalghfnjelcpnaaPr2
namespace Go.Proofs.Ytalghfnjelcpnaa.Pr
open Go.RowKit Go.Proofs.YtalghfnjelcpnaaW.PrintWords Go.Proofs.YtalghfnjelcpnaaW.PrintLast Go.Proofs.YtalghfnjelcpnaaW.PrintMore
attribute [local go_sem] max2_int min2_int max_two min_two max_three min_three max_four min_four   -- for this text's walks alone
set_option linter.unusedVariables false
set_option linter.unusedSimpArgs false

/-! ### incognitolaw02_PrimeSquares: function 11 -/
mutual
def incognitolaw02_PrimeSquares.j0 : Nat → Int → Bool → Option (Bool)
  | 0, _, _ => none
  | k + 1, x0, x18 => if x18 = true then (some true) else ((prime_Root.f k (wrap64 (x0 * x0)) 2).bind fun bt175 => ((prime_Root.f k (wrap64 ((wrap64 (x0 * x0)) - 1)) 2).bind fun bt177 => (if bt175.2 = 0 then (if bt177.2 = 0 then (if bt175.1 = 0 then (incognitolaw02_PrimeSquares.j1 k x0 (bt177.1 == 0)) else (incognitolaw02_PrimeSquares.j1 k x0 true)) else (incognitolaw02_PrimeSquares.j1 k x0 true)) else (incognitolaw02_PrimeSquares.j1 k x0 true))))
def incognitolaw02_PrimeSquares.j1 : Nat → Int → Bool → Option (Bool)
  | 0, _, _ => none
  | k + 1, x0, x47 => if x47 = true then (some false) else (if x0 > 10 then (some true) else ((prime_Root.f k (wrap64 ((wrap64 (x0 * x0)) * x0)) 3).bind fun bt179 => ((prime_Root.f k (wrap64 ((wrap64 ((wrap64 (x0 * x0)) * x0)) - 1)) 3).bind fun bt181 => (if bt179.2 = 0 then (if bt181.2 = 0 then (if bt179.1 = 0 then (some (bt181.1 != 0)) else (some false)) else (some false)) else (some false)))))
end
def incognitolaw02_PrimeSquares.f (k : Nat) (a0 : Int) : Option (Bool) := (incognitolaw02_wakes.f k).bind fun t174 => (if t174 = true then (if a0 < 2 then (incognitolaw02_PrimeSquares.j0 k a0 true) else (incognitolaw02_PrimeSquares.j0 k a0 (decide (a0 > 31)))) else (some false))
theorem incognitolaw02_PrimeSquares.mono_l : ∀ k, (∀ y0 y1, LeO (incognitolaw02_PrimeSquares.j0 k y0 y1) (incognitolaw02_PrimeSquares.j0 (k + 1) y0 y1)) ∧ (∀ y0 y1, LeO (incognitolaw02_PrimeSquares.j1 k y0 y1) (incognitolaw02_PrimeSquares.j1 (k + 1) y0 y1))
  | 0 => ⟨fun _ _ r h => by simp [incognitolaw02_PrimeSquares.j0] at h, fun _ _ r h => by simp [incognitolaw02_PrimeSquares.j1] at h⟩
  | k + 1 => by
    obtain ⟨ih0, ih1⟩ := incognitolaw02_PrimeSquares.mono_l k
    refine ⟨?_, ?_⟩
    · intro y0 y1
      unfold incognitolaw02_PrimeSquares.j0
      repeat' first
      | (with_reducible exact ih0 _ _)
      | (with_reducible exact ih1 _ _)
      | (with_reducible exact incognitolaw02_wakes.mono _)
      | (with_reducible exact prime_Root.mono _ _ _)
      | (with_reducible exact LeO.refl _)
      | (with_reducible exact LeO.none _)
      | (with_reducible refine LeO.ite ?_ ?_)
      | (with_reducible refine LeO.bind ?_ (fun _ => ?_))
      | exact ih0 _ _
      | exact ih1 _ _
      | exact incognitolaw02_wakes.mono _
      | exact prime_Root.mono _ _ _
      | exact LeO.none _
      | refine LeO.ite ?_ ?_
      | refine LeO.bind ?_ (fun _ => ?_)
    · intro y0 y1
      unfold incognitolaw02_PrimeSquares.j1
      repeat' first
      | (with_reducible exact ih0 _ _)
      | (with_reducible exact ih1 _ _)
      | (with_reducible exact incognitolaw02_wakes.mono _)
      | (with_reducible exact prime_Root.mono _ _ _)
      | (with_reducible exact LeO.refl _)
      | (with_reducible exact LeO.none _)
      | (with_reducible refine LeO.ite ?_ ?_)
      | (with_reducible refine LeO.bind ?_ (fun _ => ?_))
      | exact ih0 _ _
      | exact ih1 _ _
      | exact incognitolaw02_wakes.mono _
      | exact prime_Root.mono _ _ _
      | exact LeO.none _
      | refine LeO.ite ?_ ?_
      | refine LeO.bind ?_ (fun _ => ?_)
theorem incognitolaw02_PrimeSquares.mono : ∀ a0 k, LeO (incognitolaw02_PrimeSquares.f k a0) (incognitolaw02_PrimeSquares.f (k + 1) a0) := by
  intro a0 k
  obtain ⟨ih0, ih1⟩ := incognitolaw02_PrimeSquares.mono_l k
  unfold incognitolaw02_PrimeSquares.f
  repeat' first
      | (with_reducible exact ih0 _ _)
      | (with_reducible exact ih1 _ _)
      | (with_reducible exact incognitolaw02_wakes.mono _)
      | (with_reducible exact prime_Root.mono _ _ _)
      | (with_reducible exact LeO.refl _)
      | (with_reducible exact LeO.none _)
      | (with_reducible refine LeO.ite ?_ ?_)
      | (with_reducible refine LeO.bind ?_ (fun _ => ?_))
      | exact ih0 _ _
      | exact ih1 _ _
      | exact incognitolaw02_wakes.mono _
      | exact prime_Root.mono _ _ _
      | exact LeO.none _
      | refine LeO.ite ?_ ?_
      | refine LeO.bind ?_ (fun _ => ?_)
set_option maxHeartbeats 8000000 in
set_option maxRecDepth 100000 in
theorem incognitolaw02_PrimeSquares.calls (k : Nat) (a0 : Int) (r : Bool) (w : World) (h : incognitolaw02_PrimeSquares.f k a0 = some r) :
    Calls Try.prog 11 #[.int .i64 a0] w fun e w' => e = .returned (.bool r) ∧ Below w.heap.size w w' := by
  have HB := Aside0.mk (Below.refl w.heap.size w)
  have H : ((incognitolaw02_wakes.f k).bind fun t174 => (if t174 = true then (if a0 < 2 then (incognitolaw02_PrimeSquares.j0 k a0 true) else (incognitolaw02_PrimeSquares.j0 k a0 (decide (a0 > 31)))) else (some false))) = some r := h
  clear h
  replace H := Option.bind_eq_some_iff.mp H
  obtain ⟨t174, A20, H⟩ := H
  replace H : (if t174 = true then (if a0 < 2 then (incognitolaw02_PrimeSquares.j0 k a0 true) else (incognitolaw02_PrimeSquares.j0 k a0 (decide (a0 > 31)))) else (some false)) = some r := H
  have A2 := Aside0.mk A20
  clear A20
  by_cases c3 : t174 = true
  · subst c3
    have H1 : (if a0 < 2 then (incognitolaw02_PrimeSquares.j0 k a0 true) else (incognitolaw02_PrimeSquares.j0 k a0 (decide (a0 > 31)))) = some r := by rw [if_pos rfl] at H; exact H
    clear H
    have H := H1
    clear H1
    have HC4 := Aside0.mk H
    clear H
    go_enter Try.func11, Try.ntmps11
    go_upto_region 3 with (first | ((with_reducible refine gate_callee (f := 23) rfl ?_); refine goesL_ (some 11) rfl rfl Try.func23 (by kernel_rfl) rfl #[] rfl (by (try simp only [List.map_toArray, List.map_cons, List.map_nil]); first | done | rfl | (simp only [List.length_drop, List.length_take]; rfl)) ?_; (with_reducible refine (incognitolaw02_wakes.calls k  true _ A2.out).mono ?_); rintro e w5 ⟨rfl, hb⟩; refine ⟨_, rfl, ?_⟩; have n0_ := Aside0.mk (below_step (by repeat (first | (with_reducible first | exact HB.out | apply below_alloc | apply pw_below_drewN | apply below_drew1) | exact HB.out)) hb); clear HB; have HB := n0_; clear n0_; (try clear hb); (try clear hb2); (try clear hk); (try clear hi)))
    (try simp only [Act.put, List.setIfInBounds_toArray, List.set_cons_zero, List.set_cons_succ])
    go_cut [18] (fun v18 wc => ∃ (kq : Nat) (x18_3 : Bool), v18 = .bool x18_3 ∧ Aside0 (incognitolaw02_PrimeSquares.j0 kq a0 x18_3 = some r) ∧ Aside0 (kq ≤ k) ∧ Aside0 (Below w.heap.size w wc))
    case first =>
      have H := HC4.out
      clear HC4
      by_cases c6 : a0 < 2
      · rw [if_pos c6] at H
        have c6b0 : decide (a0 < 2) = true := decide_eq_true c6
        clear c6
        (first | rw [c6b0] | (simp only [i64_w, i32_w]; rw [c6b0]) | skip)
        have H' := Aside0.mk H
        clear H
        go_wp2
        go_meet
        case rel => exact ⟨_, (true), (by first | rfl | (simp; done) | (simp [*]; done)), H', ⟨by first | omega | exact Nat.le_refl _⟩, ⟨by repeat (first | (with_reducible first | exact HB.out | apply below_alloc | apply pw_below_drewN | apply below_drew1) | exact HB.out)⟩⟩
      · rw [if_neg c6] at H
        have c6b0 : decide (a0 < 2) = false := decide_eq_false c6
        clear c6
        (first | rw [c6b0] | (simp only [i64_w, i32_w]; rw [c6b0]) | skip)
        have H' := Aside0.mk H
        clear H
        go_wp2
        go_meet
        case rel => exact ⟨_, (decide (a0 > 31)), (by first | rfl | (simp; done) | (simp [*]; done)), H', ⟨by first | omega | exact Nat.le_refl _⟩, ⟨by repeat (first | (with_reducible first | exact HB.out | apply below_alloc | apply pw_below_drewN | apply below_drew1) | exact HB.out)⟩⟩
    case rest =>
      clear HC4
      try clear c1
      try clear c2
      try clear p2
      try clear c3
      try clear c6
      try clear c6b0
      obtain ⟨kq, x18_3, rfl, HA, HJ3, HB⟩ := hcut
      cases kq with
      | zero => exact absurd HA.out (by simp [incognitolaw02_PrimeSquares.j0])
      | succ kj3 =>
        have H := HA.out
        clear HA
        simp only [incognitolaw02_PrimeSquares.j0] at H
        by_cases c7 : x18_3 = true
        · subst c7
          have H1 : (some true) = some r := by rw [if_pos rfl] at H; exact H
          clear H
          have H := H1
          clear H1
          obtain rfl := Option.some.inj H
          go_wp2
          go_ret
          exact ⟨by first | rfl | (simp [errW_none, errW_some] <;> rfl) | (simp [*, errW_none, errW_some] <;> rfl), by repeat (first | (with_reducible first | exact HB.out | apply below_alloc | apply pw_below_drewN | apply below_drew1) | exact HB.out)⟩
        · replace c7 := Bool.eq_false_iff.mpr c7
          subst c7
          have H1 : ((prime_Root.f kj3 (wrap64 (a0 * a0)) 2).bind fun bt175 => ((prime_Root.f kj3 (wrap64 ((wrap64 (a0 * a0)) - 1)) 2).bind fun bt177 => (if bt175.2 = 0 then (if bt177.2 = 0 then (if bt175.1 = 0 then (incognitolaw02_PrimeSquares.j1 kj3 a0 (bt177.1 == 0)) else (incognitolaw02_PrimeSquares.j1 kj3 a0 true)) else (incognitolaw02_PrimeSquares.j1 kj3 a0 true)) else (incognitolaw02_PrimeSquares.j1 kj3 a0 true)))) = some r := by rw [if_neg (show ¬ (false = true) by decide)] at H; exact H
          clear H
          have H := H1
          clear H1
          replace H := Option.bind_eq_some_iff.mp H
          obtain ⟨⟨t175, t176⟩, A80, H⟩ := H
          replace H : ((prime_Root.f kj3 (wrap64 ((wrap64 (a0 * a0)) - 1)) 2).bind fun bt177 => (if t176 = 0 then (if bt177.2 = 0 then (if t175 = 0 then (incognitolaw02_PrimeSquares.j1 kj3 a0 (bt177.1 == 0)) else (incognitolaw02_PrimeSquares.j1 kj3 a0 true)) else (incognitolaw02_PrimeSquares.j1 kj3 a0 true)) else (incognitolaw02_PrimeSquares.j1 kj3 a0 true))) = some r := H
          have A8 := Aside0.mk A80
          clear A80
          replace H := Option.bind_eq_some_iff.mp H
          obtain ⟨⟨t177, t178⟩, A90, H⟩ := H
          replace H : (if t176 = 0 then (if t178 = 0 then (if t175 = 0 then (incognitolaw02_PrimeSquares.j1 kj3 a0 (t177 == 0)) else (incognitolaw02_PrimeSquares.j1 kj3 a0 true)) else (incognitolaw02_PrimeSquares.j1 kj3 a0 true)) else (incognitolaw02_PrimeSquares.j1 kj3 a0 true)) = some r := H
          have A9 := Aside0.mk A90
          clear A90
          have HC10 := Aside0.mk H
          clear H
          go_upto_region 7 with (first | ((with_reducible refine gate_callee (f := 28) rfl ?_); refine goesL_ (some 23) rfl rfl Try.func28 (by kernel_rfl) rfl #[.int .i64 (wrap64 (a0 * a0)), .int .i64 2] rfl (by (try simp only [List.map_toArray, List.map_cons, List.map_nil]); first | done | rfl | (simp only [List.length_drop, List.length_take]; rfl)) ?_; (with_reducible refine (prime_Root.calls kj3 (wrap64 (a0 * a0)) 2 t175 t176 _ A8.out).mono ?_); rintro e w' ⟨rfl, ⟨nd, rfl⟩⟩; refine ⟨_, rfl, ?_⟩) | ((with_reducible refine gate_callee (f := 28) rfl ?_); refine goesL_ (some 31) rfl rfl Try.func28 (by kernel_rfl) rfl #[.int .i64 (wrap64 ((wrap64 (a0 * a0)) - 1)), .int .i64 2] rfl (by (try simp only [List.map_toArray, List.map_cons, List.map_nil]); first | done | rfl | (simp only [List.length_drop, List.length_take]; rfl)) ?_; (with_reducible refine (prime_Root.calls kj3 (wrap64 ((wrap64 (a0 * a0)) - 1)) 2 t177 t178 _ A9.out).mono ?_); rintro e w' ⟨rfl, ⟨nd, rfl⟩⟩; refine ⟨_, rfl, ?_⟩))
          (try simp only [Act.put, List.setIfInBounds_toArray, List.set_cons_zero, List.set_cons_succ])
          go_cut [47] (fun v47 wc => ∃ (kq : Nat) (x47_9 : Bool), v47 = .bool x47_9 ∧ Aside0 (incognitolaw02_PrimeSquares.j1 kq a0 x47_9 = some r) ∧ Aside0 (kq ≤ kj3) ∧ Aside0 (Below w.heap.size w wc))
          case first =>
            have H := HC10.out
            clear HC10
            by_cases c11 : t176 = 0
            · rw [if_pos c11] at H
              have c11b0 : (t176 == 0) = true := beq_iff_eq.mpr c11
              have c11b1 : (t176 != 0) = false := bne_eq_false_iff_eq.mpr c11
              clear c11
              (first | rw [c11b0] | (simp only [i64_w, i32_w]; rw [c11b0]) | skip)
              by_cases c12 : t178 = 0
              · rw [if_pos c12] at H
                have c12b0 : (t178 == 0) = true := beq_iff_eq.mpr c12
                have c12b1 : (t178 != 0) = false := bne_eq_false_iff_eq.mpr c12
                clear c12
                by_cases c13 : t175 = 0
                · rw [if_pos c13] at H
                  have c13b0 : (t175 == 0) = true := beq_iff_eq.mpr c13
                  have c13b1 : (t175 != 0) = false := bne_eq_false_iff_eq.mpr c13
                  clear c13
                  have H' := Aside0.mk H
                  clear H
                  go_wp2
                  go_meet
                  case rel => exact ⟨_, ((t177 == 0)), (by first | rfl | (simp; done) | (simp [*]; done)), H', ⟨by have := HJ3.out; first | omega | exact Nat.le_refl _⟩, ⟨by repeat (first | (with_reducible first | exact HB.out | apply below_alloc | apply pw_below_drewN | apply below_drew1) | exact HB.out)⟩⟩
                · rw [if_neg c13] at H
                  have c13b0 : (t175 == 0) = false := beq_eq_false_iff_ne.mpr c13
                  have c13b1 : (t175 != 0) = true := bne_iff_ne.mpr c13
                  have H' := Aside0.mk H
                  clear H
                  go_wp2
                  go_meet
                  case rel => exact ⟨_, (true), (by first | rfl | (simp; done) | (simp [*]; done)), H', ⟨by have := HJ3.out; first | omega | exact Nat.le_refl _⟩, ⟨by repeat (first | (with_reducible first | exact HB.out | apply below_alloc | apply pw_below_drewN | apply below_drew1) | exact HB.out)⟩⟩
              · rw [if_neg c12] at H
                have c12b0 : (t178 == 0) = false := beq_eq_false_iff_ne.mpr c12
                have c12b1 : (t178 != 0) = true := bne_iff_ne.mpr c12
                have H' := Aside0.mk H
                clear H
                go_wp2
                go_meet
                case rel => exact ⟨_, (true), (by first | rfl | (simp; done) | (simp [*]; done)), H', ⟨by have := HJ3.out; first | omega | exact Nat.le_refl _⟩, ⟨by repeat (first | (with_reducible first | exact HB.out | apply below_alloc | apply pw_below_drewN | apply below_drew1) | exact HB.out)⟩⟩
            · rw [if_neg c11] at H
              have c11b0 : (t176 == 0) = false := beq_eq_false_iff_ne.mpr c11
              have c11b1 : (t176 != 0) = true := bne_iff_ne.mpr c11
              (first | rw [c11b0] | (simp only [i64_w, i32_w]; rw [c11b0]) | skip)
              have H' := Aside0.mk H
              clear H
              go_wp2
              go_meet
              case rel => exact ⟨_, (true), (by first | rfl | (simp; done) | (simp [*]; done)), H', ⟨by have := HJ3.out; first | omega | exact Nat.le_refl _⟩, ⟨by repeat (first | (with_reducible first | exact HB.out | apply below_alloc | apply pw_below_drewN | apply below_drew1) | exact HB.out)⟩⟩
          case rest =>
            clear HC10
            try clear c1
            try clear c2
            try clear p2
            try clear c3
            try clear c6
            try clear c6b0
            try clear p6
            try clear c7
            try clear c11
            try clear c11b0
            try clear c11b1
            try clear c12
            try clear c12b0
            try clear c12b1
            try clear c13
            try clear c13b0
            try clear c13b1
            try clear p2
            obtain ⟨kq, x47_9, rfl, HA, HJ9, HB⟩ := hcut
            cases kq with
            | zero => exact absurd HA.out (by simp [incognitolaw02_PrimeSquares.j1])
            | succ kj9 =>
              have H := HA.out
              clear HA
              simp only [incognitolaw02_PrimeSquares.j1] at H
              by_cases c14 : x47_9 = true
              · subst c14
                have H1 : (some false) = some r := by rw [if_pos rfl] at H; exact H
                clear H
                have H := H1
                clear H1
                obtain rfl := Option.some.inj H
                go_wp2
                go_ret
                exact ⟨by first | rfl | (simp [errW_none, errW_some] <;> rfl) | (simp [*, errW_none, errW_some] <;> rfl), by repeat (first | (with_reducible first | exact HB.out | apply below_alloc | apply pw_below_drewN | apply below_drew1) | exact HB.out)⟩
              · replace c14 := Bool.eq_false_iff.mpr c14
                subst c14
                have H1 : (if a0 > 10 then (some true) else ((prime_Root.f kj9 (wrap64 ((wrap64 (a0 * a0)) * a0)) 3).bind fun bt179 => ((prime_Root.f kj9 (wrap64 ((wrap64 ((wrap64 (a0 * a0)) * a0)) - 1)) 3).bind fun bt181 => (if bt179.2 = 0 then (if bt181.2 = 0 then (if bt179.1 = 0 then (some (bt181.1 != 0)) else (some false)) else (some false)) else (some false))))) = some r := by rw [if_neg (show ¬ (false = true) by decide)] at H; exact H
                clear H
                have H := H1
                clear H1
                by_cases c15 : a0 > 10
                · rw [if_pos c15] at H
                  have c15b0 : decide (10 < a0) = true := decide_eq_true c15
                  clear c15
                  obtain rfl := Option.some.inj H
                  go_wp2
                  go_ret
                  exact ⟨by first | rfl | (simp [errW_none, errW_some] <;> rfl) | (simp [*, errW_none, errW_some] <;> rfl), by repeat (first | (with_reducible first | exact HB.out | apply below_alloc | apply pw_below_drewN | apply below_drew1) | exact HB.out)⟩
                · rw [if_neg c15] at H
                  have c15b0 : decide (10 < a0) = false := decide_eq_false c15
                  clear c15
                  replace H := Option.bind_eq_some_iff.mp H
                  obtain ⟨⟨t179, t180⟩, A160, H⟩ := H
                  replace H : ((prime_Root.f kj9 (wrap64 ((wrap64 ((wrap64 (a0 * a0)) * a0)) - 1)) 3).bind fun bt181 => (if t180 = 0 then (if bt181.2 = 0 then (if t179 = 0 then (some (bt181.1 != 0)) else (some false)) else (some false)) else (some false))) = some r := H
                  have A16 := Aside0.mk A160
                  clear A160
                  replace H := Option.bind_eq_some_iff.mp H
                  obtain ⟨⟨t181, t182⟩, A170, H⟩ := H
                  replace H : (if t180 = 0 then (if t182 = 0 then (if t179 = 0 then (some (t181 != 0)) else (some false)) else (some false)) else (some false)) = some r := H
                  have A17 := Aside0.mk A170
                  clear A170
                  by_cases c18 : t180 = 0
                  · rw [if_pos c18] at H
                    have c18b0 : (t180 == 0) = true := beq_iff_eq.mpr c18
                    have c18b1 : (t180 != 0) = false := bne_eq_false_iff_eq.mpr c18
                    clear c18
                    by_cases c19 : t182 = 0
                    · rw [if_pos c19] at H
                      have c19b0 : (t182 == 0) = true := beq_iff_eq.mpr c19
                      have c19b1 : (t182 != 0) = false := bne_eq_false_iff_eq.mpr c19
                      clear c19
                      by_cases c20 : t179 = 0
                      · rw [if_pos c20] at H
                        have c20b0 : (t179 == 0) = true := beq_iff_eq.mpr c20
                        have c20b1 : (t179 != 0) = false := bne_eq_false_iff_eq.mpr c20
                        clear c20
                        obtain rfl := Option.some.inj H
                        go_wp2_with (first | ((with_reducible refine gate_callee (f := 28) rfl ?_); refine goesL_ (some 56) rfl rfl Try.func28 (by kernel_rfl) rfl #[.int .i64 (wrap64 ((wrap64 (a0 * a0)) * a0)), .int .i64 3] rfl (by (try simp only [List.map_toArray, List.map_cons, List.map_nil]); first | done | rfl | (simp only [List.length_drop, List.length_take]; rfl)) ?_; (with_reducible refine (prime_Root.calls kj9 (wrap64 ((wrap64 (a0 * a0)) * a0)) 3 t179 t180 _ A16.out).mono ?_); rintro e w' ⟨rfl, ⟨nd, rfl⟩⟩; refine ⟨_, rfl, ?_⟩) | ((with_reducible refine gate_callee (f := 28) rfl ?_); refine goesL_ (some 66) rfl rfl Try.func28 (by kernel_rfl) rfl #[.int .i64 (wrap64 ((wrap64 ((wrap64 (a0 * a0)) * a0)) - 1)), .int .i64 3] rfl (by (try simp only [List.map_toArray, List.map_cons, List.map_nil]); first | done | rfl | (simp only [List.length_drop, List.length_take]; rfl)) ?_; (with_reducible refine (prime_Root.calls kj9 (wrap64 ((wrap64 ((wrap64 (a0 * a0)) * a0)) - 1)) 3 t181 t182 _ A17.out).mono ?_); rintro e w' ⟨rfl, ⟨nd, rfl⟩⟩; refine ⟨_, rfl, ?_⟩))
                        go_ret
                        exact ⟨by first | rfl | (simp [errW_none, errW_some] <;> rfl) | (simp [*, errW_none, errW_some] <;> rfl), by repeat (first | (with_reducible first | exact HB.out | apply below_alloc | apply pw_below_drewN | apply below_drew1) | exact HB.out)⟩
                      · rw [if_neg c20] at H
                        have c20b0 : (t179 == 0) = false := beq_eq_false_iff_ne.mpr c20
                        have c20b1 : (t179 != 0) = true := bne_iff_ne.mpr c20
                        obtain rfl := Option.some.inj H
                        go_wp2_with (first | ((with_reducible refine gate_callee (f := 28) rfl ?_); refine goesL_ (some 56) rfl rfl Try.func28 (by kernel_rfl) rfl #[.int .i64 (wrap64 ((wrap64 (a0 * a0)) * a0)), .int .i64 3] rfl (by (try simp only [List.map_toArray, List.map_cons, List.map_nil]); first | done | rfl | (simp only [List.length_drop, List.length_take]; rfl)) ?_; (with_reducible refine (prime_Root.calls kj9 (wrap64 ((wrap64 (a0 * a0)) * a0)) 3 t179 t180 _ A16.out).mono ?_); rintro e w' ⟨rfl, ⟨nd, rfl⟩⟩; refine ⟨_, rfl, ?_⟩) | ((with_reducible refine gate_callee (f := 28) rfl ?_); refine goesL_ (some 66) rfl rfl Try.func28 (by kernel_rfl) rfl #[.int .i64 (wrap64 ((wrap64 ((wrap64 (a0 * a0)) * a0)) - 1)), .int .i64 3] rfl (by (try simp only [List.map_toArray, List.map_cons, List.map_nil]); first | done | rfl | (simp only [List.length_drop, List.length_take]; rfl)) ?_; (with_reducible refine (prime_Root.calls kj9 (wrap64 ((wrap64 ((wrap64 (a0 * a0)) * a0)) - 1)) 3 t181 t182 _ A17.out).mono ?_); rintro e w' ⟨rfl, ⟨nd, rfl⟩⟩; refine ⟨_, rfl, ?_⟩))
                        go_ret
                        exact ⟨by first | rfl | (simp [errW_none, errW_some] <;> rfl) | (simp [*, errW_none, errW_some] <;> rfl), by repeat (first | (with_reducible first | exact HB.out | apply below_alloc | apply pw_below_drewN | apply below_drew1) | exact HB.out)⟩
                    · rw [if_neg c19] at H
                      have c19b0 : (t182 == 0) = false := beq_eq_false_iff_ne.mpr c19
                      have c19b1 : (t182 != 0) = true := bne_iff_ne.mpr c19
                      obtain rfl := Option.some.inj H
                      go_wp2_with (first | ((with_reducible refine gate_callee (f := 28) rfl ?_); refine goesL_ (some 56) rfl rfl Try.func28 (by kernel_rfl) rfl #[.int .i64 (wrap64 ((wrap64 (a0 * a0)) * a0)), .int .i64 3] rfl (by (try simp only [List.map_toArray, List.map_cons, List.map_nil]); first | done | rfl | (simp only [List.length_drop, List.length_take]; rfl)) ?_; (with_reducible refine (prime_Root.calls kj9 (wrap64 ((wrap64 (a0 * a0)) * a0)) 3 t179 t180 _ A16.out).mono ?_); rintro e w' ⟨rfl, ⟨nd, rfl⟩⟩; refine ⟨_, rfl, ?_⟩) | ((with_reducible refine gate_callee (f := 28) rfl ?_); refine goesL_ (some 66) rfl rfl Try.func28 (by kernel_rfl) rfl #[.int .i64 (wrap64 ((wrap64 ((wrap64 (a0 * a0)) * a0)) - 1)), .int .i64 3] rfl (by (try simp only [List.map_toArray, List.map_cons, List.map_nil]); first | done | rfl | (simp only [List.length_drop, List.length_take]; rfl)) ?_; (with_reducible refine (prime_Root.calls kj9 (wrap64 ((wrap64 ((wrap64 (a0 * a0)) * a0)) - 1)) 3 t181 t182 _ A17.out).mono ?_); rintro e w' ⟨rfl, ⟨nd, rfl⟩⟩; refine ⟨_, rfl, ?_⟩))
                      go_ret
                      exact ⟨by first | rfl | (simp [errW_none, errW_some] <;> rfl) | (simp [*, errW_none, errW_some] <;> rfl), by repeat (first | (with_reducible first | exact HB.out | apply below_alloc | apply pw_below_drewN | apply below_drew1) | exact HB.out)⟩
                  · rw [if_neg c18] at H
                    have c18b0 : (t180 == 0) = false := beq_eq_false_iff_ne.mpr c18
                    have c18b1 : (t180 != 0) = true := bne_iff_ne.mpr c18
                    obtain rfl := Option.some.inj H
                    go_wp2_with (first | ((with_reducible refine gate_callee (f := 28) rfl ?_); refine goesL_ (some 56) rfl rfl Try.func28 (by kernel_rfl) rfl #[.int .i64 (wrap64 ((wrap64 (a0 * a0)) * a0)), .int .i64 3] rfl (by (try simp only [List.map_toArray, List.map_cons, List.map_nil]); first | done | rfl | (simp only [List.length_drop, List.length_take]; rfl)) ?_; (with_reducible refine (prime_Root.calls kj9 (wrap64 ((wrap64 (a0 * a0)) * a0)) 3 t179 t180 _ A16.out).mono ?_); rintro e w' ⟨rfl, ⟨nd, rfl⟩⟩; refine ⟨_, rfl, ?_⟩) | ((with_reducible refine gate_callee (f := 28) rfl ?_); refine goesL_ (some 66) rfl rfl Try.func28 (by kernel_rfl) rfl #[.int .i64 (wrap64 ((wrap64 ((wrap64 (a0 * a0)) * a0)) - 1)), .int .i64 3] rfl (by (try simp only [List.map_toArray, List.map_cons, List.map_nil]); first | done | rfl | (simp only [List.length_drop, List.length_take]; rfl)) ?_; (with_reducible refine (prime_Root.calls kj9 (wrap64 ((wrap64 ((wrap64 (a0 * a0)) * a0)) - 1)) 3 t181 t182 _ A17.out).mono ?_); rintro e w' ⟨rfl, ⟨nd, rfl⟩⟩; refine ⟨_, rfl, ?_⟩))
                    go_ret
                    exact ⟨by first | rfl | (simp [errW_none, errW_some] <;> rfl) | (simp [*, errW_none, errW_some] <;> rfl), by repeat (first | (with_reducible first | exact HB.out | apply below_alloc | apply pw_below_drewN | apply below_drew1) | exact HB.out)⟩
  · replace c3 := Bool.eq_false_iff.mpr c3
    subst c3
    have H1 : (some false) = some r := by rw [if_neg (show ¬ (false = true) by decide)] at H; exact H
    clear H
    have H := H1
    clear H1
    obtain rfl := Option.some.inj H
    go_enter Try.func11, Try.ntmps11
    go_wp2_with (first | ((with_reducible refine gate_callee (f := 23) rfl ?_); refine goesL_ (some 11) rfl rfl Try.func23 (by kernel_rfl) rfl #[] rfl (by (try simp only [List.map_toArray, List.map_cons, List.map_nil]); first | done | rfl | (simp only [List.length_drop, List.length_take]; rfl)) ?_; (with_reducible refine (incognitolaw02_wakes.calls k  false _ A2.out).mono ?_); rintro e w21 ⟨rfl, hb⟩; refine ⟨_, rfl, ?_⟩; have n0_ := Aside0.mk (below_step (by repeat (first | (with_reducible first | exact HB.out | apply below_alloc | apply pw_below_drewN | apply below_drew1) | exact HB.out)) hb); clear HB; have HB := n0_; clear n0_; (try clear hb); (try clear hb2); (try clear hk); (try clear hi)))
    go_ret
    exact ⟨by first | rfl | (simp [errW_none, errW_some] <;> rfl) | (simp [*, errW_none, errW_some] <;> rfl), by repeat (first | (with_reducible first | exact HB.out | apply below_alloc | apply pw_below_drewN | apply below_drew1) | exact HB.out)⟩

/-- THE ONE PURE STATEMENT of incognitolaw02_PrimeSquares: yours. -/
def incognitolaw02_PrimeSquares.Pure : Prop := ∀ (a0 : Int), (Lit.int .i64 a0).wf = true → ∃ k, incognitolaw02_PrimeSquares.f k a0 = some true
theorem incognitolaw02_PrimeSquares.walk (P : incognitolaw02_PrimeSquares.Pure) (a0 : Int) (w : World) (w0 : (Lit.int .i64 a0).wf = true) :
    Calls Try.prog 11 #[.int .i64 a0] w fun e w' => e = .returned (.bool true) ∧ Below w.heap.size w w' := by
  obtain ⟨k, h⟩ := P a0 w0
  refine (incognitolaw02_PrimeSquares.calls k a0 true w h).mono ?_
  rintro e w' ⟨rfl, hd⟩
  exact ⟨rfl, hd⟩

end Go.Proofs.Ytalghfnjelcpnaa.Pr
