-- PRINTED by print.py (a twelfth state) out of the translation. Not trusted: Lean checks it.
import Derived.Test.YtalghfnjelcpnaaDoorTf0
import Derived.WalkMore
namespace Go.Proofs.YtalghfnjelcpnaaDoor.Tf
open Go.RowKit Go.Proofs.YtalghfnjelcpnaaDoor Go.Proofs.YtalghfnjelcpnaaDoorW.PrintWords Go.Proofs.YtalghfnjelcpnaaDoorW.PrintLast Go.Proofs.YtalghfnjelcpnaaDoorW.PrintMore
attribute [local go_sem] max2_int min2_int max_two min_two max_three min_three max_four min_four   -- for this text's walks alone
set_option linter.unusedVariables false
set_option linter.unusedSimpArgs false

/-! ### hex_Num: function 72 -/
def hex_Num.l0 : Nat → Int → List Int → Int → Int → Option (Int × Bool)
  | 0, _, _, _, _ => none
  | k + 1, x4, x10, x11, x12 => if x12 < x11 then (if 0 ≤ x12 then (if x12 < (x10.length : Int) then (hex_Num.l0 k (Go.bits .or .u64 (IntKind.u64.wrap (x4 * 256)) (IntKind.u64.wrap (rd x10 x12))) x10 x11 (wrap64 (x12 + 1))) else (none)) else (none)) else (some (x4, true))
def hex_Num.f (k : Nat) (l0 : List Int) : Option (Int × Bool) := if (l0.length : Int) > 8 then (some (0, false)) else (hex_Num.l0 k 0 l0 (l0.length : Int) 0)
theorem hex_Num.mono_l : ∀ k, (∀ y0 y1 y2 y3, LeO (hex_Num.l0 k y0 y1 y2 y3) (hex_Num.l0 (k + 1) y0 y1 y2 y3))
  | 0 => fun _ _ _ _ r h => by simp [hex_Num.l0] at h
  | k + 1 => by
    have ih0 := hex_Num.mono_l k
    · intro y0 y1 y2 y3
      unfold hex_Num.l0
      repeat' first
      | (with_reducible exact ih0 _ _ _ _)
      | (with_reducible exact LeO.refl _)
      | (with_reducible exact LeO.none _)
      | (with_reducible refine LeO.ite ?_ ?_)
      | (with_reducible refine LeO.bind ?_ (fun _ => ?_))
      | exact ih0 _ _ _ _
      | exact LeO.none _
      | refine LeO.ite ?_ ?_
      | refine LeO.bind ?_ (fun _ => ?_)
theorem hex_Num.mono : ∀ a0 k, LeO (hex_Num.f k a0) (hex_Num.f (k + 1) a0) := by
  intro a0 k
  have ih0 := hex_Num.mono_l k
  unfold hex_Num.f
  repeat' first
      | (with_reducible exact ih0 _ _ _ _)
      | (with_reducible exact LeO.refl _)
      | (with_reducible exact LeO.none _)
      | (with_reducible refine LeO.ite ?_ ?_)
      | (with_reducible refine LeO.bind ?_ (fun _ => ?_))
      | exact ih0 _ _ _ _
      | exact LeO.none _
      | refine LeO.ite ?_ ?_
      | refine LeO.bind ?_ (fun _ => ?_)
set_option maxHeartbeats 8000000 in
set_option maxRecDepth 100000 in
theorem hex_Num.calls (k : Nat) (A0 : Option Addr) (c0 : Nat) (l0 : List Int) (r1 : Int) (r2 : Bool) (w : World) (hr0 : Kd.C (Kd.int .u8) w A0 l0.length l0) (hc0 : l0.length ≤ c0) (h : hex_Num.f k l0 = some (r1, r2)) :
    Calls Tryd.prog 72 #[.slice A0 l0.length c0] w fun e w' => e = .returned (.tuple #[.int .u64 r1, .bool r2]) ∧ Drawn0 w w' := by
  have HR0 := Aside0.mk hr0
  have HC0 := Aside0.mk hc0
  clear hr0 hc0
  have H : (if (l0.length : Int) > 8 then (some (0, false)) else (hex_Num.l0 k 0 l0 (l0.length : Int) 0)) = some (r1, r2) := h
  clear h
  by_cases c2 : (l0.length : Int) > 8
  · rw [if_pos c2] at H
    have c2b0 : decide (8 < (l0.length : Int)) = true := decide_eq_true c2
    have c2b1 : decide (8 < l0.length) = true := decide_eq_true (by omega)
    clear c2
    simp only [Option.some.injEq, Prod.mk.injEq] at H
    obtain ⟨rfl, rfl⟩ := H
    go_enter Tryd.func72, Tryd.ntmps72
    go_wp2
    go_ret2
    exact ⟨by first | rfl | (simp; done) | (simp [*]; done), by repeat (first | exact Drawn0.refl _ | apply Drawn0.step)⟩
  · rw [if_neg c2] at H
    have c2b0 : decide (8 < (l0.length : Int)) = false := decide_eq_false c2
    have c2b1 : decide (8 < l0.length) = false := decide_eq_false (by omega)
    clear c2
    have H' := Aside0.mk H
    clear H
    go_enter Tryd.func72, Tryd.ntmps72
    go_wp2
    go_loopg [4, 12] k (fun kq v4 v12 w' => ∃ (x4_1 : Int) (x12_1 : Int), v4 = .int .u64 x4_1 ∧ v12 = .int .i64 x12_1 ∧ Aside0 (hex_Num.l0 kq x4_1 l0 (l0.length : Int) x12_1 = some (r1, r2)) ∧ Aside0 (kq ≤ k) ∧ Drawn0 w w')
    case atStart => exact ⟨(0), (0), (by first | rfl | (simp; done) | (simp [*]; done)), (by first | rfl | (simp; done) | (simp [*]; done)), H', ⟨Nat.le_refl _⟩, by repeat (first | exact Drawn0.refl _ | apply Drawn0.step)⟩
    case round =>
      clear H'
      try clear c2
      try clear c2b0
      try clear c2b1
      try clear p2
      obtain ⟨x4_1, x12_1, rfl, rfl, HA, HK1, ⟨m1, rfl⟩⟩ := hrel
      cases gk with
      | zero => exact absurd HA.out (by simp [hex_Num.l0])
      | succ k1 =>
        have H := HA.out
        clear HA
        simp only [hex_Num.l0] at H
        by_cases c3 : x12_1 < (l0.length : Int)
        · rw [if_pos c3] at H
          have c3b0 : decide (x12_1 < (l0.length : Int)) = true := decide_eq_true c3
          clear c3
          by_cases c4 : 0 ≤ x12_1
          · rw [if_pos c4] at H
            have c4b0 : decide (0 ≤ x12_1) = true := decide_eq_true c4
            clear c4
            by_cases c5 : x12_1 < (l0.length : Int)
            · rw [if_pos c5] at H
              have c5b0 : decide (x12_1 < (l0.length : Int)) = true := decide_eq_true c5
              clear c5
              have H' := Aside0.mk H
              clear H
              have p150 : 0 ≤ (x12_1 : Int) := of_decide_eq_true (by first | (with_reducible assumption) | assumption)
              have q150 : x12_1 < (l0.length : Int) := of_decide_eq_true (by first | (with_reducible assumption) | assumption)
              obtain ⟨ad150, e150, hx150_0⟩ := Kd.at_int HR0.out x12_1 p150 q150
              cases e150
              replace p150 := eq_true p150
              replace q150 := eq_true q150
              go_wp2
              go_roundg k1
              case measure => have := HK1.out; omega
              case rel => exact ⟨(Go.bits .or .u64 (IntKind.u64.wrap (x4_1 * 256)) (IntKind.u64.wrap (rd l0 x12_1))), (wrap64 (x12_1 + 1)), (by first | rfl | (simp; done) | (simp [*]; done)), (by first | rfl | (simp; done) | (simp [*]; done)), H', ⟨by have := HK1.out; omega⟩, by repeat (first | exact Drawn0.refl _ | apply Drawn0.step)⟩
            · rw [if_neg c5] at H
              exact absurd H (by simp)
          · rw [if_neg c4] at H
            exact absurd H (by simp)
        · rw [if_neg c3] at H
          have c3b0 : decide (x12_1 < (l0.length : Int)) = false := decide_eq_false c3
          clear c3
          simp only [Option.some.injEq, Prod.mk.injEq] at H
          obtain ⟨rfl, rfl⟩ := H
          go_wp2
          go_ret2
          exact ⟨by first | rfl | (simp; done) | (simp [*]; done), by repeat (first | exact Drawn0.refl _ | apply Drawn0.step)⟩

-- function 73 (bytes_Clone): by hand

/-! ### tag_Parts: function 52 -/
def tag_Parts.l0 : Nat → List Int → List (List Int) → Bool → Option ((List (List Int)) × Int)
  | 0, _, _, _ => none
  | k + 1, x0, x4, x5 => if (x0.length : Int) = 0 then (some (x4, 0)) else (if (x0.length : Int) < 8 then (if x5 = true then (some (x4, 0)) else (some (([] : List (List Int)), 2))) else (if 8 ≤ (x0.length : Int) then ((hex_Num.f k (x0.take 8)).bind fun bt156 => ((some (x0.drop 8 : List Int)).bind fun y158 => (if bt156.1 > (IntKind.u64.wrap ((y158.length : Int))) then (if x5 = true then (some (x4, 0)) else (some (([] : List (List Int)), 2))) else (if 0 ≤ bt156.1 then (if bt156.1 ≤ (y158.length : Int) then ((bytes_Clone.f (y158.take (bt156.1 : Int).toNat)).bind fun t168 => (if x4.length < 5864062014805 then (tag_Parts.l0 k (y158.drop (bt156.1 : Int).toNat) (x4 ++ [t168]) x5) else (none))) else (none)) else (none))))) else (none)))
def tag_Parts.f (k : Nat) (l0 : List Int) : Option ((List (List Int)) × Int) := tag_Parts.l0 k l0 ([] : List (List Int)) false
theorem tag_Parts.mono_l : ∀ k, (∀ y0 y1 y2, LeO (tag_Parts.l0 k y0 y1 y2) (tag_Parts.l0 (k + 1) y0 y1 y2))
  | 0 => fun _ _ _ r h => by simp [tag_Parts.l0] at h
  | k + 1 => by
    have ih0 := tag_Parts.mono_l k
    · intro y0 y1 y2
      unfold tag_Parts.l0
      repeat' first
      | (with_reducible exact ih0 _ _ _)
      | (with_reducible exact hex_Num.mono _ _)
      | (with_reducible exact LeO.refl _)
      | (with_reducible exact LeO.none _)
      | (with_reducible refine LeO.ite ?_ ?_)
      | (with_reducible refine LeO.bind ?_ (fun _ => ?_))
      | exact ih0 _ _ _
      | exact hex_Num.mono _ _
      | exact LeO.none _
      | refine LeO.ite ?_ ?_
      | refine LeO.bind ?_ (fun _ => ?_)
theorem tag_Parts.mono : ∀ a0 k, LeO (tag_Parts.f k a0) (tag_Parts.f (k + 1) a0) := by
  intro a0 k
  have ih0 := tag_Parts.mono_l k
  unfold tag_Parts.f
  repeat' first
      | (with_reducible exact ih0 _ _ _)
      | (with_reducible exact hex_Num.mono _ _)
      | (with_reducible exact LeO.refl _)
      | (with_reducible exact LeO.none _)
      | (with_reducible refine LeO.ite ?_ ?_)
      | (with_reducible refine LeO.bind ?_ (fun _ => ?_))
      | exact ih0 _ _ _
      | exact hex_Num.mono _ _
      | exact LeO.none _
      | refine LeO.ite ?_ ?_
      | refine LeO.bind ?_ (fun _ => ?_)
set_option maxHeartbeats 8000000 in
set_option maxRecDepth 100000 in
theorem tag_Parts.calls (k : Nat) (P0_ : Nat → Prop) (A0 : Option Addr) (c0 : Nat) (l0 : List Int) (r1 : List (List Int)) (r2 : Int) (w : World) (hs0 : Kd.V (Kd.int .u8) 5 w w.heap.size (fun k_ => P0_ k_) (.slice A0 l0.length c0) l0) (h : tag_Parts.f k l0 = some (r1, r2)) :
    Calls Tryd.prog 52 #[.slice A0 l0.length c0] w fun e w' => ∃ v0_ : Value, e = .returned (.tuple #[v0_, .int .i64 r2]) ∧ Kd.S (Kd.slice 5 (Kd.int .u8)) 22 w' w.heap.size (fun k_ => (w.heap.size ≤ k_)) v0_ r1 ∧ Below w.heap.size w w' := by
  have HO0 := Aside0.mk (show Kd.V (Kd.int .u8) 5 w w.heap.size (fun k_ => (P0_ k_ ∨ w.heap.size ≤ k_)) (.slice A0 l0.length c0) l0 from Kd.V_mono hs0 (fun k_ hk => .inl hk))
  have HB := Aside0.mk (Below.refl w.heap.size w)
  have H : (tag_Parts.l0 k l0 ([] : List (List Int)) false) = some (r1, r2) := h
  clear h
  have H' := Aside0.mk H
  clear H
  go_enter Tryd.func52, Tryd.ntmps52
  go_wp2
  apply wp_scope_straight
  go_wp2
  apply wp_label
  go_wp2
  go_loopg [0, 4, 5] k (fun kq v0 v4 v5 w' => ∃ (x0_1 : List Int) (x4_1 : List (List Int)) (x5_1 : Bool), v5 = .bool x5_1 ∧ Aside0 (tag_Parts.l0 kq x0_1 x4_1 x5_1 = some (r1, r2)) ∧ Aside0 (kq ≤ k) ∧ Aside0 (Kd.V (Kd.int .u8) 5 w' w.heap.size (fun k_ => (P0_ k_ ∨ w.heap.size ≤ k_) ∧ some k_ ≠ (v4 : Value).ownBlock) v0 x0_1) ∧ Aside0 (Kd.S (Kd.slice 5 (Kd.int .u8)) 22 w' w.heap.size (fun k_ => (w.heap.size ≤ k_)) v4 x4_1) ∧ Aside0 (Below w.heap.size w w'))
  case atStart => exact ⟨(l0), (([] : List (List Int))), (false), (by first | rfl | (simp; done) | (simp [*]; done)), H', ⟨Nat.le_refl _⟩, ⟨by (with_reducible repeat (first | apply Kd.V_alloc | apply Kd.V_drewN | apply Kd.V_drew)); exact Kd.V_mono HO0.out (fun _ hk => ⟨hk, (by simp [Value.ownBlock])⟩)⟩, ⟨by first | exact Kd.S_nil _ _ _ _ _ | exact Kd.N_nil _ _ _ _ _ | exact Kd.V_nil _ _ _ _ _ | exact Kd.Q_nil _ _ _ _ _ | exact Kd.R_nil _ _ _ _ _⟩, ⟨by repeat (first | (with_reducible first | exact HB.out | apply below_alloc | apply pw_below_drewN | apply below_drew1) | exact HB.out)⟩⟩
  case round =>
    clear H'
    obtain ⟨x0_1, x4_1, x5_1, rfl, HA, HK1, HO_0, HO_4, HB⟩ := hrel
    cases gk with
    | zero => exact absurd HA.out (by simp [tag_Parts.l0])
    | succ k1 =>
      have H := HA.out
      clear HA
      simp only [tag_Parts.l0] at H
      by_cases c2 : (x0_1.length : Int) = 0
      · rw [if_pos c2] at H
        have c2b0 : ((x0_1.length : Int) == 0) = true := beq_iff_eq.mpr c2
        have c2b1 : ((x0_1.length : Int) != 0) = false := bne_eq_false_iff_eq.mpr c2
        clear c2
        simp only [Option.some.injEq, Prod.mk.injEq] at H
        obtain ⟨rfl, rfl⟩ := H
        obtain ⟨Ao3, co3, eo3⟩ := Kd.V_slice HO_0.out
        subst eo3
        go_wp2
        rw [Exit.noGoto_ret]
        go_ret2
        exact ⟨_, by first | rfl | (simp [errW_none, errW_some] <;> rfl) | (simp [*, errW_none, errW_some] <;> rfl), by (with_reducible repeat (first | apply Kd.S_alloc | apply Kd.S_drewN | apply Kd.S_drew)); exact HO_4.out, by repeat (first | (with_reducible first | exact HB.out | apply below_alloc | apply pw_below_drewN | apply below_drew1) | exact HB.out)⟩
      · rw [if_neg c2] at H
        have c2b0 : ((x0_1.length : Int) == 0) = false := beq_eq_false_iff_ne.mpr c2
        have c2b1 : ((x0_1.length : Int) != 0) = true := bne_iff_ne.mpr c2
        have c2b2 : ¬ (x0_1 = []) := fun h_ => c2 (by rw [h_]; rfl)
        by_cases c4 : (x0_1.length : Int) < 8
        · rw [if_pos c4] at H
          have c4b0 : decide ((x0_1.length : Int) < 8) = true := decide_eq_true c4
          have c4b1 : decide (x0_1.length < 8) = true := decide_eq_true (by omega)
          clear c4
          by_cases c5 : x5_1 = true
          · subst c5
            have H1 : (some (x4_1, 0)) = some (r1, r2) := by rw [if_pos rfl] at H; exact H
            clear H
            have H := H1
            clear H1
            simp only [Option.some.injEq, Prod.mk.injEq] at H
            obtain ⟨rfl, rfl⟩ := H
            obtain ⟨Ao6, co6, eo6⟩ := Kd.V_slice HO_0.out
            subst eo6
            go_wp2
            rw [Exit.noGoto_ret]
            go_ret2
            exact ⟨_, by first | rfl | (simp [errW_none, errW_some] <;> rfl) | (simp [*, errW_none, errW_some] <;> rfl), by (with_reducible repeat (first | apply Kd.S_alloc | apply Kd.S_drewN | apply Kd.S_drew)); exact HO_4.out, by repeat (first | (with_reducible first | exact HB.out | apply below_alloc | apply pw_below_drewN | apply below_drew1) | exact HB.out)⟩
          · replace c5 := Bool.eq_false_iff.mpr c5
            subst c5
            have H1 : (some (([] : List (List Int)), 2)) = some (r1, r2) := by rw [if_neg (show ¬ (false = true) by decide)] at H; exact H
            clear H
            have H := H1
            clear H1
            simp only [Option.some.injEq, Prod.mk.injEq] at H
            obtain ⟨rfl, rfl⟩ := H
            obtain ⟨Ao7, co7, eo7⟩ := Kd.V_slice HO_0.out
            subst eo7
            go_wp2
            rw [Exit.noGoto_ret]
            go_ret2
            exact ⟨_, by first | rfl | (simp [errW_none, errW_some] <;> rfl) | (simp [*, errW_none, errW_some] <;> rfl), by first | exact Kd.S_nil _ _ _ _ _ | exact Kd.N_nil _ _ _ _ _ | exact Kd.V_nil _ _ _ _ _ | exact Kd.Q_nil _ _ _ _ _ | exact Kd.R_nil _ _ _ _ _, by repeat (first | (with_reducible first | exact HB.out | apply below_alloc | apply pw_below_drewN | apply below_drew1) | exact HB.out)⟩
        · rw [if_neg c4] at H
          have c4b0 : decide ((x0_1.length : Int) < 8) = false := decide_eq_false c4
          have c4b1 : decide (x0_1.length < 8) = false := decide_eq_false (by omega)
          clear c4
          by_cases c8 : 8 ≤ (x0_1.length : Int)
          · rw [if_pos c8] at H
            have c8b0 := eq_true c8
            have c8b1 : decide (8 ≤ (x0_1.length : Int)) = true := decide_eq_true c8
            clear c8
            obtain ⟨y151, hy151⟩ : ∃ y_ : List Int, y_ = (x0_1.take 8) := ⟨_, rfl⟩
            replace H : ((hex_Num.f k1 y151).bind fun bt156 => ((some (x0_1.drop 8 : List Int)).bind fun y158 => (if bt156.1 > (IntKind.u64.wrap ((y158.length : Int))) then (if x5_1 = true then (some (x4_1, 0)) else (some (([] : List (List Int)), 2))) else (if 0 ≤ bt156.1 then (if bt156.1 ≤ (y158.length : Int) then ((bytes_Clone.f (y158.take (bt156.1 : Int).toNat)).bind fun t168 => (if x4_1.length < 5864062014805 then (tag_Parts.l0 k1 (y158.drop (bt156.1 : Int).toNat) (x4_1 ++ [t168]) x5_1) else (none))) else (none)) else (none))))) = some (r1, r2) := by first | (rw [hy151]; with_reducible exact H) | (have H2_ := (Option.bind_some _ _).symm.trans H; rw [hy151]; with_reducible exact H2_) | (have H2_ := (Option.bind_some _ _).symm.trans H; with_reducible exact H2_) | with_reducible exact H | (rw [hy151]; exact H) | exact H
            have Ny151 := Aside0.mk hy151
            clear hy151
            replace H := Option.bind_eq_some_iff.mp H
            obtain ⟨⟨t156, t157⟩, A90, H⟩ := H
            replace H : ((some (x0_1.drop 8 : List Int)).bind fun y158 => (if t156 > (IntKind.u64.wrap ((y158.length : Int))) then (if x5_1 = true then (some (x4_1, 0)) else (some (([] : List (List Int)), 2))) else (if 0 ≤ t156 then (if t156 ≤ (y158.length : Int) then ((bytes_Clone.f (y158.take (t156 : Int).toNat)).bind fun t168 => (if x4_1.length < 5864062014805 then (tag_Parts.l0 k1 (y158.drop (t156 : Int).toNat) (x4_1 ++ [t168]) x5_1) else (none))) else (none)) else (none)))) = some (r1, r2) := H
            have A9 := Aside0.mk A90
            clear A90
            have c10b0 := eq_true (of_decide_eq_true (by first | (with_reducible assumption) | assumption) : 8 ≤ (x0_1.length : Int))
            obtain ⟨y158, hy158⟩ : ∃ y_ : List Int, y_ = (x0_1.drop 8) := ⟨_, rfl⟩
            replace H : (if t156 > (IntKind.u64.wrap ((y158.length : Int))) then (if x5_1 = true then (some (x4_1, 0)) else (some (([] : List (List Int)), 2))) else (if 0 ≤ t156 then (if t156 ≤ (y158.length : Int) then ((bytes_Clone.f (y158.take (t156 : Int).toNat)).bind fun t168 => (if x4_1.length < 5864062014805 then (tag_Parts.l0 k1 (y158.drop (t156 : Int).toNat) (x4_1 ++ [t168]) x5_1) else (none))) else (none)) else (none))) = some (r1, r2) := by first | (rw [hy158]; with_reducible exact H) | (have H2_ := (Option.bind_some _ _).symm.trans H; rw [hy158]; with_reducible exact H2_) | (have H2_ := (Option.bind_some _ _).symm.trans H; with_reducible exact H2_) | with_reducible exact H | (rw [hy158]; exact H) | exact H
            have Ny158 := Aside0.mk hy158
            clear hy158
            by_cases c11 : t156 > (IntKind.u64.wrap ((y158.length : Int)))
            · rw [if_pos c11] at H
              have c11b0 : decide ((IntKind.u64.wrap ((y158.length : Int))) < t156) = true := decide_eq_true c11
              clear c11
              by_cases c12 : x5_1 = true
              · subst c12
                have H1 : (some (x4_1, 0)) = some (r1, r2) := by rw [if_pos rfl] at H; exact H
                clear H
                have H := H1
                clear H1
                simp only [Option.some.injEq, Prod.mk.injEq] at H
                obtain ⟨rfl, rfl⟩ := H
                obtain ⟨Ao13, co13, eo13⟩ := Kd.V_slice HO_0.out
                subst eo13
                have q14 : (8 : Int) ≤ ((x0_1.length : Int) : Int) := of_decide_eq_true (by first | (with_reducible assumption) | assumption)
                obtain ⟨i014, hi014, _, hsz14, _⟩ := info_parts info5
                have hroom14 : x0_1.length ≤ co13 := (Kd.V_reads' HO_0.out).2.1
                have hC14 : Kd.F (Kd.int .u8) _ _ Ao13 x0_1.length x0_1 := (Kd.V_at (base := w.heap.size) HO_0.out).2.2
                have hcut14 := cut_to (P := Tryd.prog) 22 5 .i64 Tryd.underlying22 hi014 Ao13 x0_1.length co13 8 (by omega) q14 hroom14
                have hr14 := Kd.F_take (m := 8) hC14 (by omega)
                have hy14 : y151.length = (8 : Int).toNat := (by rw [Ny151.out, List.length_take]; omega)
                rw [← Ny151.out] at hr14
                rw [← hy14] at hcut14
                have HO155 := Aside0.mk (show Kd.V (Kd.int .u8) 5 _ w.heap.size _ (.slice Ao13 y151.length co13) y151 from Kd.V_mk (by omega) hr14)
                have HC155 := Aside0.mk (show y151.length ≤ co13 from by omega)
                clear hr14 hC14 hroom14 hi014 hsz14
                have KY14 := Aside0.mk hy14
                clear hy14
                replace q14 := eq_true q14
                go_wp2_with (first | ((with_reducible refine gate_callee (f := 72) rfl ?_); refine goesL_ (some 19) rfl rfl Tryd.func72 (by kernel_rfl) rfl #[.slice Ao13 y151.length co13] rfl (by (try simp only [List.map_toArray, List.map_cons, List.map_nil]); first | done | rfl | (simp only [List.length_drop, List.length_take]; rfl)) ?_; (with_reducible refine (hex_Num.calls k1 _ _ y151 t156 t157 _ ?side1 ?side2 A9.out).mono ?_); (case side1 => repeat (first | exact (Kd.V_reads' HO155.out).2.2 | (with_reducible refine Kd.C_alloc ?_ _) | (with_reducible refine Kd.C_drewN ?_ _) | (with_reducible refine Kd.C_drew ?_))); (case side2 => exact (Kd.V_reads' HO155.out).2.1); rintro e w' ⟨rfl, ⟨nd, rfl⟩⟩; refine ⟨_, rfl, ?_⟩; have q15 : (8 : Int) ≤ ((x0_1.length : Int) : Int) := of_decide_eq_true (by first | (with_reducible assumption) | assumption); obtain ⟨i015, hi015, _, hsz15, _⟩ := info_parts info5; have hroom15 : x0_1.length ≤ co13 := (Kd.V_reads' HO_0.out).2.1; have hC15 : Kd.F (Kd.int .u8) _ _ Ao13 x0_1.length x0_1 := (Kd.V_at (base := w.heap.size) HO_0.out).2.2; have hcut15 := cut_from (P := Tryd.prog) 22 5 .i64 Tryd.underlying22 hi015 1 hsz15 Ao13 x0_1.length co13 8 (by omega) q15; have hr15 := Kd.F_cut (m := (8 : Int).toNat) (c := co13) hC15 (by omega) hroom15; obtain ⟨A15, hA15⟩ : ∃ A1, A1 = (if co13 = (8 : Int).toNat then Ao13 else (Ao13 : Option Addr).map (·.add ((8 : Int).toNat * 1))) := ⟨_, rfl⟩; obtain ⟨c15, hc15⟩ : ∃ c1, c1 = co13 - (8 : Int).toNat := ⟨_, rfl⟩; have hy15 : y158.length = x0_1.length - (8 : Int).toNat := (by rw [Ny158.out, List.length_drop] <;> omega); rw [show (x0_1).drop (8 : Int).toNat = y158 from Ny158.out.symm] at hr15; replace hr15 : Kd.F (Kd.int .u8) _ _ A15 y158.length y158 := (by rw [hA15]; exact hr15); rw [← hy15, ← hA15, ← hc15] at hcut15; have HO162 := Aside0.mk (show Kd.V (Kd.int .u8) 5 _ w.heap.size _ (.slice A15 y158.length c15) y158 from Kd.V_mk (by rw [hy15, hc15]; exact Nat.sub_le_sub_right hroom15 _) hr15); have HC162 := Aside0.mk (show y158.length ≤ c15 from by rw [hy15, hc15]; exact Nat.sub_le_sub_right hroom15 _); clear hr15 hC15 hroom15 hi015 hsz15 hc15; have KY15 := Aside0.mk hy15; have KA15 := Aside0.mk hA15; clear hy15 hA15; replace q15 := eq_true q15))
                rw [Exit.noGoto_ret]
                go_ret2
                exact ⟨_, by first | rfl | (simp [errW_none, errW_some] <;> rfl) | (simp [*, errW_none, errW_some] <;> rfl), by (with_reducible repeat (first | apply Kd.S_alloc | apply Kd.S_drewN | apply Kd.S_drew)); exact HO_4.out, by repeat (first | (with_reducible first | exact HB.out | apply below_alloc | apply pw_below_drewN | apply below_drew1) | exact HB.out)⟩
              · replace c12 := Bool.eq_false_iff.mpr c12
                subst c12
                have H1 : (some (([] : List (List Int)), 2)) = some (r1, r2) := by rw [if_neg (show ¬ (false = true) by decide)] at H; exact H
                clear H
                have H := H1
                clear H1
                simp only [Option.some.injEq, Prod.mk.injEq] at H
                obtain ⟨rfl, rfl⟩ := H
                obtain ⟨Ao16, co16, eo16⟩ := Kd.V_slice HO_0.out
                subst eo16
                have q17 : (8 : Int) ≤ ((x0_1.length : Int) : Int) := of_decide_eq_true (by first | (with_reducible assumption) | assumption)
                obtain ⟨i017, hi017, _, hsz17, _⟩ := info_parts info5
                have hroom17 : x0_1.length ≤ co16 := (Kd.V_reads' HO_0.out).2.1
                have hC17 : Kd.F (Kd.int .u8) _ _ Ao16 x0_1.length x0_1 := (Kd.V_at (base := w.heap.size) HO_0.out).2.2
                have hcut17 := cut_to (P := Tryd.prog) 22 5 .i64 Tryd.underlying22 hi017 Ao16 x0_1.length co16 8 (by omega) q17 hroom17
                have hr17 := Kd.F_take (m := 8) hC17 (by omega)
                have hy17 : y151.length = (8 : Int).toNat := (by rw [Ny151.out, List.length_take]; omega)
                rw [← Ny151.out] at hr17
                rw [← hy17] at hcut17
                have HO155 := Aside0.mk (show Kd.V (Kd.int .u8) 5 _ w.heap.size _ (.slice Ao16 y151.length co16) y151 from Kd.V_mk (by omega) hr17)
                have HC155 := Aside0.mk (show y151.length ≤ co16 from by omega)
                clear hr17 hC17 hroom17 hi017 hsz17
                have KY17 := Aside0.mk hy17
                clear hy17
                replace q17 := eq_true q17
                go_wp2_with (first | ((with_reducible refine gate_callee (f := 72) rfl ?_); refine goesL_ (some 19) rfl rfl Tryd.func72 (by kernel_rfl) rfl #[.slice Ao16 y151.length co16] rfl (by (try simp only [List.map_toArray, List.map_cons, List.map_nil]); first | done | rfl | (simp only [List.length_drop, List.length_take]; rfl)) ?_; (with_reducible refine (hex_Num.calls k1 _ _ y151 t156 t157 _ ?side1 ?side2 A9.out).mono ?_); (case side1 => repeat (first | exact (Kd.V_reads' HO155.out).2.2 | (with_reducible refine Kd.C_alloc ?_ _) | (with_reducible refine Kd.C_drewN ?_ _) | (with_reducible refine Kd.C_drew ?_))); (case side2 => exact (Kd.V_reads' HO155.out).2.1); rintro e w' ⟨rfl, ⟨nd, rfl⟩⟩; refine ⟨_, rfl, ?_⟩; have q18 : (8 : Int) ≤ ((x0_1.length : Int) : Int) := of_decide_eq_true (by first | (with_reducible assumption) | assumption); obtain ⟨i018, hi018, _, hsz18, _⟩ := info_parts info5; have hroom18 : x0_1.length ≤ co16 := (Kd.V_reads' HO_0.out).2.1; have hC18 : Kd.F (Kd.int .u8) _ _ Ao16 x0_1.length x0_1 := (Kd.V_at (base := w.heap.size) HO_0.out).2.2; have hcut18 := cut_from (P := Tryd.prog) 22 5 .i64 Tryd.underlying22 hi018 1 hsz18 Ao16 x0_1.length co16 8 (by omega) q18; have hr18 := Kd.F_cut (m := (8 : Int).toNat) (c := co16) hC18 (by omega) hroom18; obtain ⟨A18, hA18⟩ : ∃ A1, A1 = (if co16 = (8 : Int).toNat then Ao16 else (Ao16 : Option Addr).map (·.add ((8 : Int).toNat * 1))) := ⟨_, rfl⟩; obtain ⟨c18, hc18⟩ : ∃ c1, c1 = co16 - (8 : Int).toNat := ⟨_, rfl⟩; have hy18 : y158.length = x0_1.length - (8 : Int).toNat := (by rw [Ny158.out, List.length_drop] <;> omega); rw [show (x0_1).drop (8 : Int).toNat = y158 from Ny158.out.symm] at hr18; replace hr18 : Kd.F (Kd.int .u8) _ _ A18 y158.length y158 := (by rw [hA18]; exact hr18); rw [← hy18, ← hA18, ← hc18] at hcut18; have HO162 := Aside0.mk (show Kd.V (Kd.int .u8) 5 _ w.heap.size _ (.slice A18 y158.length c18) y158 from Kd.V_mk (by rw [hy18, hc18]; exact Nat.sub_le_sub_right hroom18 _) hr18); have HC162 := Aside0.mk (show y158.length ≤ c18 from by rw [hy18, hc18]; exact Nat.sub_le_sub_right hroom18 _); clear hr18 hC18 hroom18 hi018 hsz18 hc18; have KY18 := Aside0.mk hy18; have KA18 := Aside0.mk hA18; clear hy18 hA18; replace q18 := eq_true q18))
                rw [Exit.noGoto_ret]
                go_ret2
                exact ⟨_, by first | rfl | (simp [errW_none, errW_some] <;> rfl) | (simp [*, errW_none, errW_some] <;> rfl), by first | exact Kd.S_nil _ _ _ _ _ | exact Kd.N_nil _ _ _ _ _ | exact Kd.V_nil _ _ _ _ _ | exact Kd.Q_nil _ _ _ _ _ | exact Kd.R_nil _ _ _ _ _, by repeat (first | (with_reducible first | exact HB.out | apply below_alloc | apply pw_below_drewN | apply below_drew1) | exact HB.out)⟩
            · rw [if_neg c11] at H
              have c11b0 : decide ((IntKind.u64.wrap ((y158.length : Int))) < t156) = false := decide_eq_false c11
              clear c11
              by_cases c19 : 0 ≤ t156
              · rw [if_pos c19] at H
                have c19b0 := eq_true c19
                have c19b1 : decide (0 ≤ t156) = true := decide_eq_true c19
                clear c19
                by_cases c20 : t156 ≤ (y158.length : Int)
                · rw [if_pos c20] at H
                  have c20b0 := eq_true c20
                  have c20b1 : decide (t156 ≤ (y158.length : Int)) = true := decide_eq_true c20
                  clear c20
                  obtain ⟨y163, hy163⟩ : ∃ y_ : List Int, y_ = (y158.take (t156 : Int).toNat) := ⟨_, rfl⟩
                  replace H : ((bytes_Clone.f y163).bind fun t168 => (if x4_1.length < 5864062014805 then (tag_Parts.l0 k1 (y158.drop (t156 : Int).toNat) (x4_1 ++ [t168]) x5_1) else (none))) = some (r1, r2) := by first | (rw [hy163]; with_reducible exact H) | (have H2_ := (Option.bind_some _ _).symm.trans H; rw [hy163]; with_reducible exact H2_) | (have H2_ := (Option.bind_some _ _).symm.trans H; with_reducible exact H2_) | with_reducible exact H | (rw [hy163]; exact H) | exact H
                  have Ny163 := Aside0.mk hy163
                  clear hy163
                  replace H := Option.bind_eq_some_iff.mp H
                  obtain ⟨t168, A210, H⟩ := H
                  replace H : (if x4_1.length < 5864062014805 then (tag_Parts.l0 k1 (y158.drop (t156 : Int).toNat) (x4_1 ++ [t168]) x5_1) else (none)) = some (r1, r2) := H
                  have A21 := Aside0.mk A210
                  clear A210
                  by_cases c22 : x4_1.length < 5864062014805
                  · rw [if_pos c22] at H
                    have LMc22 := Aside0.mk c22
                    clear c22
                    obtain ⟨y171, hy171⟩ : ∃ y_ : List (List Int), y_ = (x4_1 ++ [t168]) := ⟨_, rfl⟩
                    replace H : (tag_Parts.l0 k1 (y158.drop (t156 : Int).toNat) y171 x5_1) = some (r1, r2) := by first | (rw [hy171]; with_reducible exact H) | (have H2_ := (Option.bind_some _ _).symm.trans H; rw [hy171]; with_reducible exact H2_) | (have H2_ := (Option.bind_some _ _).symm.trans H; with_reducible exact H2_) | with_reducible exact H | (rw [hy171]; exact H) | exact H
                    have Ny171 := Aside0.mk hy171
                    clear hy171
                    have c23b0 := eq_true (of_decide_eq_true (by first | (with_reducible assumption) | assumption) : 0 ≤ t156)
                    have c24b0 := eq_true (of_decide_eq_true (by first | (with_reducible assumption) | assumption) : t156 ≤ (y158.length : Int))
                    obtain ⟨y174, hy174⟩ : ∃ y_ : List Int, y_ = (y158.drop (t156 : Int).toNat) := ⟨_, rfl⟩
                    replace H : (tag_Parts.l0 k1 y174 y171 x5_1) = some (r1, r2) := by first | (rw [hy174]; with_reducible exact H) | (have H2_ := (Option.bind_some _ _).symm.trans H; rw [hy174]; with_reducible exact H2_) | (have H2_ := (Option.bind_some _ _).symm.trans H; with_reducible exact H2_) | with_reducible exact H | (rw [hy174]; exact H) | exact H
                    have Ny174 := Aside0.mk hy174
                    clear hy174
                    have H' := Aside0.mk H
                    clear H
                    obtain ⟨Ao25, co25, eo25⟩ := Kd.V_slice HO_0.out
                    subst eo25
                    have q26 : (8 : Int) ≤ ((x0_1.length : Int) : Int) := of_decide_eq_true (by first | (with_reducible assumption) | assumption)
                    obtain ⟨i026, hi026, _, hsz26, _⟩ := info_parts info5
                    have hroom26 : x0_1.length ≤ co25 := (Kd.V_reads' HO_0.out).2.1
                    have hC26 : Kd.F (Kd.int .u8) _ _ Ao25 x0_1.length x0_1 := (Kd.V_at (base := w.heap.size) HO_0.out).2.2
                    have hcut26 := cut_to (P := Tryd.prog) 22 5 .i64 Tryd.underlying22 hi026 Ao25 x0_1.length co25 8 (by omega) q26 hroom26
                    have hr26 := Kd.F_take (m := 8) hC26 (by omega)
                    have hy26 : y151.length = (8 : Int).toNat := (by rw [Ny151.out, List.length_take]; omega)
                    rw [← Ny151.out] at hr26
                    rw [← hy26] at hcut26
                    have HO155 := Aside0.mk (show Kd.V (Kd.int .u8) 5 _ w.heap.size _ (.slice Ao25 y151.length co25) y151 from Kd.V_mk (by omega) hr26)
                    have HC155 := Aside0.mk (show y151.length ≤ co25 from by omega)
                    clear hr26 hC26 hroom26 hi026 hsz26
                    have KY26 := Aside0.mk hy26
                    clear hy26
                    replace q26 := eq_true q26
                    go_wp2_with (first | ((with_reducible refine gate_callee (f := 72) rfl ?_); refine goesL_ (some 19) rfl rfl Tryd.func72 (by kernel_rfl) rfl #[.slice Ao25 y151.length co25] rfl (by (try simp only [List.map_toArray, List.map_cons, List.map_nil]); first | done | rfl | (simp only [List.length_drop, List.length_take]; rfl)) ?_; (with_reducible refine (hex_Num.calls k1 _ _ y151 t156 t157 _ ?side1 ?side2 A9.out).mono ?_); (case side1 => repeat (first | exact (Kd.V_reads' HO155.out).2.2 | (with_reducible refine Kd.C_alloc ?_ _) | (with_reducible refine Kd.C_drewN ?_ _) | (with_reducible refine Kd.C_drew ?_))); (case side2 => exact (Kd.V_reads' HO155.out).2.1); rintro e w' ⟨rfl, ⟨nd, rfl⟩⟩; refine ⟨_, rfl, ?_⟩; have q27 : (8 : Int) ≤ ((x0_1.length : Int) : Int) := of_decide_eq_true (by first | (with_reducible assumption) | assumption); obtain ⟨i027, hi027, _, hsz27, _⟩ := info_parts info5; have hroom27 : x0_1.length ≤ co25 := (Kd.V_reads' HO_0.out).2.1; have hC27 : Kd.F (Kd.int .u8) _ _ Ao25 x0_1.length x0_1 := (Kd.V_at (base := w.heap.size) HO_0.out).2.2; have hcut27 := cut_from (P := Tryd.prog) 22 5 .i64 Tryd.underlying22 hi027 1 hsz27 Ao25 x0_1.length co25 8 (by omega) q27; have hr27 := Kd.F_cut (m := (8 : Int).toNat) (c := co25) hC27 (by omega) hroom27; obtain ⟨A27, hA27⟩ : ∃ A1, A1 = (if co25 = (8 : Int).toNat then Ao25 else (Ao25 : Option Addr).map (·.add ((8 : Int).toNat * 1))) := ⟨_, rfl⟩; obtain ⟨c27, hc27⟩ : ∃ c1, c1 = co25 - (8 : Int).toNat := ⟨_, rfl⟩; have hy27 : y158.length = x0_1.length - (8 : Int).toNat := (by rw [Ny158.out, List.length_drop] <;> omega); rw [show (x0_1).drop (8 : Int).toNat = y158 from Ny158.out.symm] at hr27; replace hr27 : Kd.F (Kd.int .u8) _ _ A27 y158.length y158 := (by rw [hA27]; exact hr27); rw [← hy27, ← hA27, ← hc27] at hcut27; have HO162 := Aside0.mk (show Kd.V (Kd.int .u8) 5 _ w.heap.size _ (.slice A27 y158.length c27) y158 from Kd.V_mk (by rw [hy27, hc27]; exact Nat.sub_le_sub_right hroom27 _) hr27); have HC162 := Aside0.mk (show y158.length ≤ c27 from by rw [hy27, hc27]; exact Nat.sub_le_sub_right hroom27 _); clear hr27 hC27 hroom27 hi027 hsz27 hc27; have KY27 := Aside0.mk hy27; have KA27 := Aside0.mk hA27; clear hy27 hA27; replace q27 := eq_true q27; have q28 : (t156 : Int) ≤ ((y158.length : Int) : Int) := of_decide_eq_true (by first | (with_reducible assumption) | assumption); obtain ⟨i028, hi028, _, hsz28, _⟩ := info_parts info5; have hroom28 : y158.length ≤ c27 := (Kd.V_reads' HO162.out).2.1; have hC28 : Kd.F (Kd.int .u8) _ _ A27 y158.length y158 := (Kd.V_at (base := w.heap.size) HO162.out).2.2; have hcut28 := cut_to (P := Tryd.prog) 22 5 .u64 Tryd.underlying22 hi028 A27 y158.length c27 t156 (of_decide_eq_true (by first | (with_reducible assumption) | assumption)) q28 hroom28; have hr28 := Kd.F_take (m := (t156 : Int).toNat) hC28 (by omega); have hy28 : y163.length = (t156 : Int).toNat := (by rw [Ny163.out, List.length_take]; omega); rw [← Ny163.out] at hr28; rw [← hy28] at hcut28; have HO167 := Aside0.mk (show Kd.V (Kd.int .u8) 5 _ w.heap.size _ (.slice A27 y163.length c27) y163 from Kd.V_mk (by omega) hr28); have HC167 := Aside0.mk (show y163.length ≤ c27 from by omega); clear hr28 hC28 hroom28 hi028 hsz28; have KY28 := Aside0.mk hy28; clear hy28; replace q28 := eq_true q28) | ((with_reducible refine gate_callee (f := 73) rfl ?_); refine goesL_ (some 33) rfl rfl Tryd.func73 (by kernel_rfl) rfl #[.slice A27 y163.length c27] rfl (by (try simp only [List.map_toArray, List.map_cons, List.map_nil]); first | done | rfl | (simp only [List.length_drop, List.length_take]; rfl)) ?_; (with_reducible refine (bytes_Clone.calls _ _ y163 t168 _ ?side1 ?side2 A21.out).mono ?_); (case side1 => repeat (first | exact (Kd.V_reads' HO167.out).2.2 | (with_reducible refine Kd.C_alloc ?_ _) | (with_reducible refine Kd.C_drewN ?_ _) | (with_reducible refine Kd.C_drew ?_))); (case side2 => exact (Kd.V_reads' HO167.out).2.1); rintro e w29 ⟨v169, rfl, ho0, hb⟩; refine ⟨_, rfl, ?_⟩; have n0_ := Aside0.mk (Kd.V_elder' (by (with_reducible repeat (first | apply Kd.V_alloc | apply Kd.V_drewN | apply Kd.V_drew)); exact HO_0.out) (Kd.R_base ho0) hb); have n1_ := Aside0.mk (Kd.S_elder' (by (with_reducible repeat (first | apply Kd.S_alloc | apply Kd.S_drewN | apply Kd.S_drew)); exact HO_4.out) (Kd.R_base ho0) hb); have n2_ := Aside0.mk (Kd.V_elder' (by (with_reducible repeat (first | apply Kd.V_alloc | apply Kd.V_drewN | apply Kd.V_drew)); exact HO155.out) (Kd.R_base ho0) hb); have n3_ := Aside0.mk (Kd.V_elder' (by (with_reducible repeat (first | apply Kd.V_alloc | apply Kd.V_drewN | apply Kd.V_drew)); exact HO162.out) (Kd.R_base ho0) hb); have n4_ := Aside0.mk (Kd.V_elder' (by (with_reducible repeat (first | apply Kd.V_alloc | apply Kd.V_drewN | apply Kd.V_drew)); exact HO167.out) (Kd.R_base ho0) hb); have n5_ := Aside0.mk (Kd.R_lower (Kd.R_newM (M := fun k_ => (w.heap.size ≤ k_)) ho0 (below_size (by repeat (first | (with_reducible first | exact HB.out | apply below_alloc | apply pw_below_drewN | apply below_drew1) | exact HB.out))) (fun k_ h_ => h_)) (below_size (by repeat (first | (with_reducible first | exact HB.out | apply below_alloc | apply pw_below_drewN | apply below_drew1) | exact HB.out)))); have n6_ := Aside0.mk (below_step (by repeat (first | (with_reducible first | exact HB.out | apply below_alloc | apply pw_below_drewN | apply below_drew1) | exact HB.out)) hb); clear HO_0; clear HO_4; clear HO155; clear HO162; clear HO167; clear HB; have HO_0 := n0_; have HO_4 := n1_; have HO155 := n2_; have HO162 := n3_; have HO167 := n4_; have HO170 := n5_; have HB := n6_; clear n0_ n1_ n2_ n3_ n4_ n5_ n6_; (try clear hb); (try clear hb2); (try clear hk); (try clear hi); (try clear ho0); obtain ⟨Ao31, co31, eo31⟩ := Kd.R_slice HO170.out; subst eo31) | ((with_reducible refine gate_builtin (b := .append) (xs := #[.tmp 29, .tmp 34]) rfl ?_); at_builtin; refine Kd.S_append (Kd.slice 5 (Kd.int .u8)) (w0 := w) w.heap.size rfl (.tmp 29) (.tmp 34) 39 22 (.slice none 0 0) 24 rfl Tryd.underlying39 info22 rfl (by decide) (by omega) u4 x4_1 t168 [.slice Ao31 t168.length co31] (fun k_ => (w.heap.size ≤ k_)) (fun k_ => some k_ = (.slice Ao31 t168.length co31 : Value).ownBlock) rfl rfl ?aP (fun k_ hk_ => ((Kd.R_mono (ok' := fun k_ => ((fun k_ => (w.heap.size ≤ k_))) k_ ∧ some k_ ≠ (u4 : Value).ownBlock) (Kd.R_apart' (HO170.out) (Kd.S_typed HO_4.out) (by decide)) (fun k_ hk => ⟨hk.1.1, hk.2⟩))).1 k_ hk_.symm) ?aF ?aO ?aB ?aS ?aL ?_; (case aP => exact Kd.M_row (Kd.R_mono (Kd.R_tight rfl (Kd.R_mono (ok' := fun k_ => ((fun k_ => (w.heap.size ≤ k_))) k_ ∧ some k_ ≠ (u4 : Value).ownBlock) (Kd.R_apart' (HO170.out) (Kd.S_typed HO_4.out) (by decide)) (fun k_ hk => ⟨hk.1.1, hk.2⟩))) (fun _ h_ => h_))); (case aB => exact (by repeat (first | (with_reducible first | exact HB.out | apply below_alloc | apply pw_below_drewN | apply below_drew1) | exact HB.out))); (case aF => exact (fun k_ hk => (Nat.le_trans (below_size (by repeat (first | (with_reducible first | exact HB.out | apply below_alloc | apply pw_below_drewN | apply below_drew1) | exact HB.out))) hk))); (case aO => exact (by (with_reducible repeat (first | apply Kd.S_alloc | apply Kd.S_drewN | apply Kd.S_drew)); exact Kd.S_mono HO_4.out (fun k_ hk => ⟨hk.1, fun e_ => hk.2 e_⟩))); (case aS => exact (below_size (by repeat (first | (with_reducible first | exact HB.out | apply below_alloc | apply pw_below_drewN | apply below_drew1) | exact HB.out)))); (case aL => have := LMc22.out; omega); intro v172 w30 ho hb hg hat; rw [← Ny171.out] at ho; have n0_ := Aside0.mk (Kd.V_afterv (ok := (fun k_ => (P0_ k_ ∨ w.heap.size ≤ k_) ∧ some k_ ≠ (.slice Ao31 t168.length co31 : Value).ownBlock)) (by (with_reducible repeat (first | apply Kd.V_alloc | apply Kd.V_drewN | apply Kd.V_drew)); exact Kd.V_mono HO_0.out (fun _ hk => ⟨⟨hk.1.1, hk.2⟩, hk.1.2⟩)) hg hat); have n1_ := Aside0.mk (Kd.V_afterv (ok := (fun k_ => (P0_ k_ ∨ w.heap.size ≤ k_) ∧ some k_ ≠ (.slice Ao31 t168.length co31 : Value).ownBlock)) (by (with_reducible repeat (first | apply Kd.V_alloc | apply Kd.V_drewN | apply Kd.V_drew)); exact Kd.V_mono HO155.out (fun _ hk => ⟨⟨hk.1.1, hk.2⟩, hk.1.2⟩)) hg hat); have n2_ := Aside0.mk (Kd.V_afterv (ok := (fun k_ => (P0_ k_ ∨ w.heap.size ≤ k_) ∧ some k_ ≠ (.slice Ao31 t168.length co31 : Value).ownBlock)) (by (with_reducible repeat (first | apply Kd.V_alloc | apply Kd.V_drewN | apply Kd.V_drew)); exact Kd.V_mono HO162.out (fun _ hk => ⟨⟨hk.1.1, hk.2⟩, hk.1.2⟩)) hg hat); have n3_ := Aside0.mk (Kd.V_afterv (ok := (fun k_ => (P0_ k_ ∨ w.heap.size ≤ k_) ∧ some k_ ≠ (.slice Ao31 t168.length co31 : Value).ownBlock)) (by (with_reducible repeat (first | apply Kd.V_alloc | apply Kd.V_drewN | apply Kd.V_drew)); exact Kd.V_mono HO167.out (fun _ hk => ⟨⟨hk.1.1, hk.2⟩, hk.1.2⟩)) hg hat); have n4_ := Aside0.mk (hb); have n5_ := Aside0.mk (ho); clear HO_0; clear HO155; clear HO162; clear HO167; clear HB; clear HO_4; clear HO170; have HO_0 := n0_; have HO155 := n1_; have HO162 := n2_; have HO167 := n3_; have HB := n4_; have HO173 := n5_; clear n0_ n1_ n2_ n3_ n4_ n5_; clear ho hb hg hat; have q32 : (t156 : Int) ≤ ((y158.length : Int) : Int) := of_decide_eq_true (by first | (with_reducible assumption) | assumption); obtain ⟨i032, hi032, _, hsz32, _⟩ := info_parts info5; have hroom32 : y158.length ≤ c27 := (Kd.V_reads' HO162.out).2.1; have hC32 : Kd.F (Kd.int .u8) _ _ A27 y158.length y158 := (Kd.V_at (base := w.heap.size) HO162.out).2.2; have q032 : (0 : Int) ≤ (t156 : Int) := of_decide_eq_true (by first | (with_reducible assumption) | assumption); have hcut32 := cut_from (P := Tryd.prog) 22 5 .u64 Tryd.underlying22 hi032 1 hsz32 A27 y158.length c27 t156 q032 q32; have hr32 := Kd.F_cut (m := (t156 : Int).toNat) (c := c27) hC32 (by omega) hroom32; obtain ⟨A32, hA32⟩ : ∃ A1, A1 = (if c27 = (t156 : Int).toNat then A27 else (A27 : Option Addr).map (·.add ((t156 : Int).toNat * 1))) := ⟨_, rfl⟩; obtain ⟨c32, hc32⟩ : ∃ c1, c1 = c27 - (t156 : Int).toNat := ⟨_, rfl⟩; have hy32 : y174.length = y158.length - (t156 : Int).toNat := (by rw [Ny174.out, List.length_drop] <;> omega); rw [show (y158).drop (t156 : Int).toNat = y174 from Ny174.out.symm] at hr32; replace hr32 : Kd.F (Kd.int .u8) _ _ A32 y174.length y174 := (by rw [hA32]; exact hr32); rw [← hy32, ← hA32, ← hc32] at hcut32; have HO178 := Aside0.mk (show Kd.V (Kd.int .u8) 5 _ w.heap.size _ (.slice A32 y174.length c32) y174 from Kd.V_mk (by rw [hy32, hc32]; exact Nat.sub_le_sub_right hroom32 _) hr32); have HC178 := Aside0.mk (show y174.length ≤ c32 from by rw [hy32, hc32]; exact Nat.sub_le_sub_right hroom32 _); clear hr32 hC32 hroom32 hi032 hsz32 hc32; have KY32 := Aside0.mk hy32; have KA32 := Aside0.mk hA32; clear hy32 hA32; replace q32 := eq_true q32))
                    go_roundg k1
                    case measure => have := HK1.out; omega
                    case rel => exact ⟨(y174), (y171), (x5_1), (by first | rfl | (simp; done) | (simp [*]; done)), H', ⟨by have := HK1.out; omega⟩, ⟨by (with_reducible repeat (first | apply Kd.V_alloc | apply Kd.V_drewN | apply Kd.V_drew)); exact Kd.V_mono HO178.out (fun _ hk => ⟨hk.1.1, hk.2⟩)⟩, ⟨by (with_reducible repeat (first | apply Kd.S_alloc | apply Kd.S_drewN | apply Kd.S_drew)); exact HO173.out⟩, ⟨by repeat (first | (with_reducible first | exact HB.out | apply below_alloc | apply pw_below_drewN | apply below_drew1) | exact HB.out)⟩⟩
                  · rw [if_neg c22] at H
                    exact absurd H (by simp)
                · rw [if_neg c20] at H
                  exact absurd H (by simp)
              · rw [if_neg c19] at H
                exact absurd H (by simp)
          · rw [if_neg c8] at H
            exact absurd H (by simp)

end Go.Proofs.YtalghfnjelcpnaaDoor.Tf
