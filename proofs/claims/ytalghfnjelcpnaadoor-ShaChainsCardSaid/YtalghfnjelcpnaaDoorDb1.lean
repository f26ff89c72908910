-- PRINTED by print.py (a twelfth state) out of the translation. Not trusted: Lean checks it.
import Derived.Test.YtalghfnjelcpnaaDoorDb0
namespace Go.Proofs.YtalghfnjelcpnaaDoor.Db
open Go.RowKit Go.Proofs.YtalghfnjelcpnaaDoorW.PrintWords Go.Proofs.YtalghfnjelcpnaaDoorW.PrintLast Go.Proofs.YtalghfnjelcpnaaDoorW.PrintMore
attribute [local go_sem] max2_int min2_int max_two min_two max_three min_three max_four min_four   -- for this text's walks alone
set_option linter.unusedVariables false
set_option linter.unusedSimpArgs false

/-! ### hex_Big: function 61 -/
def hex_Big.l0 : Nat → Int → List Int → Int → Option (List Int)
  | 0, _, _, _ => none
  | k + 1, x0, x5, x6 => if x6 ≥ 0 then (if 0 ≤ x6 then (if x6 < (x5.length : Int) then (hex_Big.l0 k (x0 / 256) (x5.set (x6 : Int).toNat ((x0) % 256)) (wrap64 (x6 - 1))) else (none)) else (none)) else (some x5)
def hex_Big.f (k : Nat) (a0 : Int) (a1 : Int) : Option (List Int) := if a1 < 1 then (some ([] : List Int)) else (if 0 ≤ (mn a1 8) then (if (mn a1 8 : Int).toNat ≤ 281474976710656 then ((some (List.replicate (mn a1 8 : Int).toNat 0 : List Int)).bind fun y101 => (hex_Big.l0 k a0 y101 (wrap64 ((y101.length : Int) - 1)))) else (none)) else (none))
theorem hex_Big.mono_l : ∀ k, (∀ y0 y1 y2, LeO (hex_Big.l0 k y0 y1 y2) (hex_Big.l0 (k + 1) y0 y1 y2))
  | 0 => fun _ _ _ r h => by simp [hex_Big.l0] at h
  | k + 1 => by
    have ih0 := hex_Big.mono_l k
    · intro y0 y1 y2
      unfold hex_Big.l0
      repeat' first
      | (with_reducible exact ih0 _ _ _)
      | (with_reducible exact LeO.refl _)
      | (with_reducible exact LeO.none _)
      | (with_reducible refine LeO.ite ?_ ?_)
      | (with_reducible refine LeO.bind ?_ (fun _ => ?_))
      | exact ih0 _ _ _
      | exact LeO.none _
      | refine LeO.ite ?_ ?_
      | refine LeO.bind ?_ (fun _ => ?_)
theorem hex_Big.mono : ∀ a0 a1 k, LeO (hex_Big.f k a0 a1) (hex_Big.f (k + 1) a0 a1) := by
  intro a0 a1 k
  have ih0 := hex_Big.mono_l k
  unfold hex_Big.f
  repeat' first
      | (with_reducible exact ih0 _ _ _)
      | (with_reducible exact LeO.refl _)
      | (with_reducible exact LeO.none _)
      | (with_reducible refine LeO.ite ?_ ?_)
      | (with_reducible refine LeO.bind ?_ (fun _ => ?_))
      | exact ih0 _ _ _
      | exact LeO.none _
      | refine LeO.ite ?_ ?_
      | refine LeO.bind ?_ (fun _ => ?_)
set_option maxHeartbeats 8000000 in
set_option maxRecDepth 100000 in
theorem hex_Big.calls (k : Nat) (a0 : Int) (a1 : Int) (r : List Int) (w : World) (h : hex_Big.f k a0 a1 = some r) :
    Calls Tryd.prog 61 #[.int .u64 a0, .int .i64 a1] w fun e w' => ∃ v0_ : Value, e = .returned (v0_) ∧ Kd.R (Kd.int .u8) 5 w' w.heap.size (fun _ => True) v0_ r ∧ Below w.heap.size w w' := by
  have HB := Aside0.mk (Below.refl w.heap.size w)
  have H : (if a1 < 1 then (some ([] : List Int)) else (if 0 ≤ (mn a1 8) then (if (mn a1 8 : Int).toNat ≤ 281474976710656 then ((some (List.replicate (mn a1 8 : Int).toNat 0 : List Int)).bind fun y101 => (hex_Big.l0 k a0 y101 (wrap64 ((y101.length : Int) - 1)))) else (none)) else (none))) = some r := h
  clear h
  by_cases c3 : a1 < 1
  · rw [if_pos c3] at H
    have c3b0 : decide (a1 < 1) = true := decide_eq_true c3
    clear c3
    obtain rfl := Option.some.inj H
    go_enter Tryd.func61, Tryd.ntmps61
    go_wp2
    go_ret
    exact ⟨_, by first | rfl | (simp [errW_none, errW_some] <;> rfl) | (simp [*, errW_none, errW_some] <;> rfl), by first | exact Kd.R_nil _ _ _ _ _ | exact Kd.N_nil _ _ _ _ _ | exact Kd.V_nil _ _ _ _ _ | exact Kd.Q_nil _ _ _ _ _ | exact Kd.S_nil _ _ _ _ _, by repeat (first | (with_reducible first | exact HB.out | apply below_alloc | apply pw_below_drewN | apply below_drew1) | exact HB.out)⟩
  · rw [if_neg c3] at H
    have c3b0 : decide (a1 < 1) = false := decide_eq_false c3
    clear c3
    obtain ⟨ji4, hji4⟩ : ∃ j_ : Int, (mn a1 8) = j_ := ⟨_, rfl⟩
    replace H : (if 0 ≤ (ji4) then (if (ji4 : Int).toNat ≤ 281474976710656 then ((some (List.replicate (ji4 : Int).toNat 0 : List Int)).bind fun y101 => (hex_Big.l0 k a0 y101 (wrap64 ((y101.length : Int) - 1)))) else (none)) else (none)) = some r := by first | (rw [hji4] at H; exact H) | (simp only [hji4] at H ⊢; exact H)
    (try (have hji4h : ji4 ≤ 8 := by (rw [← hji4]; unfold mn; (repeat' split) <;> omega)))
    (try (have hji4g : ji4 ≤ 64 := by omega))
    have hji4_ : (if 8 < a1 then 8 else a1) = ji4 := hji4
    by_cases c5 : 0 ≤ (ji4)
    · rw [if_pos c5] at H
      have c5b0 := eq_true c5
      have c5b1 : decide (0 ≤ (ji4)) = true := decide_eq_true c5
      clear c5
      by_cases c6 : (ji4 : Int).toNat ≤ 281474976710656
      · rw [if_pos c6] at H
        have c6b0 := eq_true c6
        have c6b1 : decide ((ji4 : Int).toNat ≤ 281474976710656) = true := decide_eq_true c6
        clear c6
        obtain ⟨y101, hy101⟩ : ∃ y_ : List Int, y_ = (List.replicate (ji4 : Int).toNat 0) := ⟨_, rfl⟩
        replace H : (hex_Big.l0 k a0 y101 (wrap64 ((y101.length : Int) - 1))) = some r := by first | (rw [hy101]; with_reducible exact H) | (have H2_ := (Option.bind_some _ _).symm.trans H; rw [hy101]; with_reducible exact H2_) | (have H2_ := (Option.bind_some _ _).symm.trans H; with_reducible exact H2_) | with_reducible exact H | (rw [hy101]; exact H) | exact H
        have Ny101 := Aside0.mk hy101
        clear hy101
        have H' := Aside0.mk H
        clear H
        go_enter Tryd.func61, Tryd.ntmps61
        go_wp2_with (first | ((with_reducible refine gate_dst (N := 11) rfl ?_); refine Kd.R_make (Kd.int .u8) _ 5 rfl (N := 11) rfl 22 _ _ rfl ji4 rfl rfl Tryd.underlying22 (.int .u8 0) 1 info5 rfl (by decide) (by omega) 0 (ok := fun _ => True) (okp := fun _ => True) rfl (fun _ hk => hk) trivial (of_decide_eq_true (by first | (with_reducible assumption) | assumption)) (Nat.le_trans (Nat.mul_le_mul_right _ (of_decide_eq_true (by first | (with_reducible assumption) | assumption) : ji4.toNat ≤ 281474976710656)) (by omega)) (Below.refl _ _) (Nat.le_refl _) ?_; intro v102 w7 ho8 hb hg_ hnew_; clear hg_ hnew_; (first | rw [← Ny101.out] at ho8 | (simp only [Int.reduceToNat] at ho8; rw [← Ny101.out] at ho8)); have n0_ := Aside0.mk (Kd.R_lower ho8 (below_size (by repeat (first | (with_reducible first | exact HB.out | apply below_alloc | apply pw_below_drewN | apply below_drew1) | exact HB.out)))); have n1_ := Aside0.mk (below_step (by repeat (first | (with_reducible first | exact HB.out | apply below_alloc | apply pw_below_drewN | apply below_drew1) | exact HB.out)) hb); clear HB; have HO103 := n0_; have HB := n1_; clear n0_ n1_; clear hb ho8; obtain ⟨Ao9, co9, eo9⟩ := Kd.R_slice HO103.out; subst eo9))
        go_loopg [0, 6] k (fun kq v0 v6 w' => ∃ (x0_1 : Int) (x5_1 : List Int) (x6_1 : Int), v0 = .int .u64 x0_1 ∧ v6 = .int .i64 x6_1 ∧ Aside0 (hex_Big.l0 kq x0_1 x5_1 x6_1 = some r) ∧ Aside0 (kq ≤ k) ∧ Aside0 (Kd.R (Kd.int .u8) 5 w' w.heap.size (fun _ => True) (.slice Ao9 y101.length co9) x5_1) ∧ Aside0 (Below w.heap.size w w'))
        case atStart => exact ⟨(a0), (y101), (wrap64 ((y101.length : Int) - 1)), (by first | rfl | (simp; done) | (simp [*]; done)), (by first | rfl | (simp; done) | (simp [*]; done)), H', ⟨Nat.le_refl _⟩, ⟨by (with_reducible repeat (first | apply Kd.R_alloc | apply Kd.R_drewN | apply Kd.R_drew)); exact HO103.out⟩, ⟨by repeat (first | (with_reducible first | exact HB.out | apply below_alloc | apply pw_below_drewN | apply below_drew1) | exact HB.out)⟩⟩
        case round =>
          clear H'
          try clear p2
          try clear c3
          try clear c3b0
          try clear c5
          try clear c5b0
          try clear c5b1
          try clear c6
          try clear c6b0
          try clear c6b1
          try clear p6
          obtain ⟨x0_1, x5_1, x6_1, rfl, rfl, HA, HK1, HO_5, HB⟩ := hrel
          have hl5_1 := (Kd.R_reads' HO_5.out).1
          rw [hl5_1] at HO_5
          (try simp only [hl5_1])
          cases gk with
          | zero => exact absurd HA.out (by simp [hex_Big.l0])
          | succ k1 =>
            have H := HA.out
            clear HA
            simp only [hex_Big.l0] at H
            by_cases c10 : x6_1 ≥ 0
            · rw [if_pos c10] at H
              have c10b0 : decide (0 ≤ x6_1) = true := decide_eq_true c10
              clear c10
              by_cases c11 : 0 ≤ x6_1
              · rw [if_pos c11] at H
                have c11b0 : decide (0 ≤ x6_1) = true := decide_eq_true c11
                clear c11
                by_cases c12 : x6_1 < (x5_1.length : Int)
                · rw [if_pos c12] at H
                  have c12b0 : decide (x6_1 < (x5_1.length : Int)) = true := decide_eq_true c12
                  clear c12
                  obtain ⟨y104, hy104⟩ : ∃ y_ : List Int, y_ = (x5_1.set (x6_1 : Int).toNat ((x0_1) % 256)) := ⟨_, rfl⟩
                  replace H : (hex_Big.l0 k1 (x0_1 / 256) y104 (wrap64 (x6_1 - 1))) = some r := by first | (rw [hy104]; with_reducible exact H) | (have H2_ := (Option.bind_some _ _).symm.trans H; rw [hy104]; with_reducible exact H2_) | (have H2_ := (Option.bind_some _ _).symm.trans H; with_reducible exact H2_) | with_reducible exact H | (rw [hy104]; exact H) | exact H
                  have Ny104 := Aside0.mk hy104
                  clear hy104
                  have H' := Aside0.mk H
                  clear H
                  have p13 : 0 ≤ (x6_1 : Int) := of_decide_eq_true (by first | (with_reducible assumption) | assumption)
                  have q13 : (x6_1 : Int) < ((x5_1.length : Int) : Int) := of_decide_eq_true (by first | (with_reducible assumption) | assumption)
                  obtain ⟨go13, co13, eo13, gb13, gl13, cl13, HG13⟩ := Kd.R_form HO_5.out (by omega)
                  (first | cases eo13 | (injection eo13 with ea_ en_ ec_; (first | subst ea_ | (injection ea_ with ea_; subst ea_)); subst ec_; clear en_))
                  have GB13 := Aside0.mk gb13
                  have GG13 := Aside0.mk HG13
                  clear gb13 gl13 HG13
                  obtain ⟨hx13_0, hf13_0⟩ := Kd.R_celln 0 HO_5.out (x6_1 : Int) p13 q13
                  replace p13 := eq_true p13
                  replace q13 := eq_true q13
                  have HP14 := Kd.R_putg HO_5.out (x6_1 : Int) ((x0_1) % 256)
                  go_wp2_with (first | ((with_reducible refine gate_store (t := 5) (p := 23) rfl ?_); refine store_event (t := 5) (p := 23) (v := ?vo_w15) (w1 := (wr.setCell ⟨go13, (x6_1 : Int).toNat, none⟩ (.int .u8 ((x0_1) % 256)))) ?hg ?ho ?hn ?hr ?_; (case ho => rfl); (case hg => rfl); (case hn => rfl); (case hr => first | (go_simp; done) | (go_simp; rfl)); intro w15 hw; have hg : wr.grownBy w15 (some go13) := (by rw [hw]; exact HP14.2); have hp_ : Kd.R (Kd.int .u8) 5 w15 w.heap.size (fun _ => True) (.slice (some ⟨go13, 0, none⟩) x5_1.length co9) y104 := (by rw [hw, Ny104.out]; exact HP14.1); clear HP14; have n0_ := Aside0.mk (hp_); have n1_ := Aside0.mk ((by rw [hw]; exact below_set (HB.out) GB13.out : Below w.heap.size w w15)); clear HO_5; clear HB; have HO_5 := n0_; have HB := n1_; clear n0_ n1_; clear hg hw hp_))
                  (try simp only [← hl5_1])
                  go_roundg k1
                  case measure => have := HK1.out; omega
                  case rel => exact ⟨(x0_1 / 256), (y104), (wrap64 (x6_1 - 1)), (by first | rfl | (simp; done) | (simp [*]; done)), (by first | rfl | (simp; done) | (simp [*]; done)), H', ⟨by have := HK1.out; omega⟩, ⟨by (try simp only [hl5_1]); (with_reducible repeat (first | apply Kd.R_alloc | apply Kd.R_drewN | apply Kd.R_drew)); exact HO_5.out⟩, ⟨by repeat (first | (with_reducible first | exact HB.out | apply below_alloc | apply pw_below_drewN | apply below_drew1) | exact HB.out)⟩⟩
                · rw [if_neg c12] at H
                  exact absurd H (by simp)
              · rw [if_neg c11] at H
                exact absurd H (by simp)
            · rw [if_neg c10] at H
              have c10b0 : decide (0 ≤ x6_1) = false := decide_eq_false c10
              clear c10
              obtain rfl := Option.some.inj H
              go_wp2
              go_ret
              exact ⟨_, by first | rfl | (simp [errW_none, errW_some] <;> rfl) | (simp only [← hji4]; first | rfl | (simp [errW_none, errW_some] <;> rfl)) | (simp [*, errW_none, errW_some] <;> rfl), by (with_reducible repeat (first | apply Kd.R_alloc | apply Kd.R_drewN | apply Kd.R_drew)); exact HO_5.out, by repeat (first | (with_reducible first | exact HB.out | apply below_alloc | apply pw_below_drewN | apply below_drew1) | exact HB.out)⟩
      · rw [if_neg c6] at H
        exact absurd H (by simp)
    · rw [if_neg c5] at H
      exact absurd H (by simp)

/-! ### bits_Mul64: function 81 -/
def bits_Mul64.f (a0 : Int) (a1 : Int) : Option (Int × Int) := some (IntKind.u64.wrap ((IntKind.u64.wrap ((IntKind.u64.wrap ((a0 / 4294967296) * (a1 / 4294967296))) + ((IntKind.u64.wrap ((IntKind.u64.wrap ((a0 / 4294967296) * (Go.bits .and .u64 a1 4294967295))) + ((IntKind.u64.wrap ((Go.bits .and .u64 a0 4294967295) * (Go.bits .and .u64 a1 4294967295))) / 4294967296))) / 4294967296))) + ((IntKind.u64.wrap ((Go.bits .and .u64 (IntKind.u64.wrap ((IntKind.u64.wrap ((a0 / 4294967296) * (Go.bits .and .u64 a1 4294967295))) + ((IntKind.u64.wrap ((Go.bits .and .u64 a0 4294967295) * (Go.bits .and .u64 a1 4294967295))) / 4294967296))) 4294967295) + (IntKind.u64.wrap ((Go.bits .and .u64 a0 4294967295) * (a1 / 4294967296))))) / 4294967296)), IntKind.u64.wrap (a0 * a1))
set_option maxHeartbeats 8000000 in
set_option maxRecDepth 100000 in
theorem bits_Mul64.calls (a0 : Int) (a1 : Int) (r1 : Int) (r2 : Int) (w : World) (h : bits_Mul64.f a0 a1 = some (r1, r2)) :
    Calls Tryd.prog 81 #[.int .u64 a0, .int .u64 a1] w fun e w' => e = .returned (.tuple #[.int .u64 r1, .int .u64 r2]) ∧ Drawn0 w w' := by
  have H : (some (IntKind.u64.wrap ((IntKind.u64.wrap ((IntKind.u64.wrap ((a0 / 4294967296) * (a1 / 4294967296))) + ((IntKind.u64.wrap ((IntKind.u64.wrap ((a0 / 4294967296) * (Go.bits .and .u64 a1 4294967295))) + ((IntKind.u64.wrap ((Go.bits .and .u64 a0 4294967295) * (Go.bits .and .u64 a1 4294967295))) / 4294967296))) / 4294967296))) + ((IntKind.u64.wrap ((Go.bits .and .u64 (IntKind.u64.wrap ((IntKind.u64.wrap ((a0 / 4294967296) * (Go.bits .and .u64 a1 4294967295))) + ((IntKind.u64.wrap ((Go.bits .and .u64 a0 4294967295) * (Go.bits .and .u64 a1 4294967295))) / 4294967296))) 4294967295) + (IntKind.u64.wrap ((Go.bits .and .u64 a0 4294967295) * (a1 / 4294967296))))) / 4294967296)), IntKind.u64.wrap (a0 * a1))) = some (r1, r2) := h
  clear h
  simp only [Option.some.injEq, Prod.mk.injEq] at H
  obtain ⟨rfl, rfl⟩ := H
  go_enter Tryd.func81, Tryd.ntmps81
  go_wp2
  go_ret2
  exact ⟨by first | rfl | (simp; done) | (simp [*]; done), by repeat (first | exact Drawn0.refl _ | apply Drawn0.step)⟩

/-! ### prime_above: function 76 -/
def prime_above.f (a0 : Int) (a1 : Int) (a2 : Int) : Option (Bool) := (bits_Mul64.f a0 a0).bind fun bt105 => (if a2 = 2 then (if bt105.1 > (IntKind.u64.wrap (a1)) then (some true) else (if bt105.1 = (IntKind.u64.wrap (a1)) then (some (decide (bt105.2 > 0))) else (some false))) else ((bits_Mul64.f bt105.2 a0).bind fun bt107 => (if (IntKind.u64.wrap (bt107.1 + (IntKind.u64.wrap (bt105.1 * a0)))) > (IntKind.u64.wrap ((IntKind.u64.wrap (a1)) * 4294967296)) then (some true) else (if (IntKind.u64.wrap (bt107.1 + (IntKind.u64.wrap (bt105.1 * a0)))) = (IntKind.u64.wrap ((IntKind.u64.wrap (a1)) * 4294967296)) then (some (decide (bt107.2 > 0))) else (some false)))))
set_option maxHeartbeats 8000000 in
set_option maxRecDepth 100000 in
theorem prime_above.calls (a0 : Int) (a1 : Int) (a2 : Int) (r : Bool) (w : World) (h : prime_above.f a0 a1 a2 = some r) :
    Calls Tryd.prog 76 #[.int .u64 a0, .int .i64 a1, .int .i64 a2] w fun e w' => e = .returned (.bool r) ∧ Drawn0 w w' := by
  have H : ((bits_Mul64.f a0 a0).bind fun bt105 => (if a2 = 2 then (if bt105.1 > (IntKind.u64.wrap (a1)) then (some true) else (if bt105.1 = (IntKind.u64.wrap (a1)) then (some (decide (bt105.2 > 0))) else (some false))) else ((bits_Mul64.f bt105.2 a0).bind fun bt107 => (if (IntKind.u64.wrap (bt107.1 + (IntKind.u64.wrap (bt105.1 * a0)))) > (IntKind.u64.wrap ((IntKind.u64.wrap (a1)) * 4294967296)) then (some true) else (if (IntKind.u64.wrap (bt107.1 + (IntKind.u64.wrap (bt105.1 * a0)))) = (IntKind.u64.wrap ((IntKind.u64.wrap (a1)) * 4294967296)) then (some (decide (bt107.2 > 0))) else (some false)))))) = some r := h
  clear h
  replace H := Option.bind_eq_some_iff.mp H
  obtain ⟨⟨t105, t106⟩, A40, H⟩ := H
  replace H : (if a2 = 2 then (if t105 > (IntKind.u64.wrap (a1)) then (some true) else (if t105 = (IntKind.u64.wrap (a1)) then (some (decide (t106 > 0))) else (some false))) else ((bits_Mul64.f t106 a0).bind fun bt107 => (if (IntKind.u64.wrap (bt107.1 + (IntKind.u64.wrap (t105 * a0)))) > (IntKind.u64.wrap ((IntKind.u64.wrap (a1)) * 4294967296)) then (some true) else (if (IntKind.u64.wrap (bt107.1 + (IntKind.u64.wrap (t105 * a0)))) = (IntKind.u64.wrap ((IntKind.u64.wrap (a1)) * 4294967296)) then (some (decide (bt107.2 > 0))) else (some false))))) = some r := H
  have A4 := Aside0.mk A40
  clear A40
  by_cases c5 : a2 = 2
  · rw [if_pos c5] at H
    have c5b0 : (a2 == 2) = true := beq_iff_eq.mpr c5
    have c5b1 : (a2 != 2) = false := bne_eq_false_iff_eq.mpr c5
    clear c5
    by_cases c6 : t105 > (IntKind.u64.wrap (a1))
    · rw [if_pos c6] at H
      have c6b0 : decide ((IntKind.u64.wrap (a1)) < t105) = true := decide_eq_true c6
      clear c6
      obtain rfl := Option.some.inj H
      go_enter Tryd.func76, Tryd.ntmps76
      go_wp2_with (first | ((with_reducible refine gate_callee (f := 81) rfl ?_); refine goesL_ (some 15) rfl rfl Tryd.func81 (by kernel_rfl) rfl #[.int .u64 a0, .int .u64 a0] rfl (by (try simp only [List.map_toArray, List.map_cons, List.map_nil]); first | done | rfl | (simp only [List.length_drop, List.length_take]; rfl)) ?_; (with_reducible refine (bits_Mul64.calls a0 a0 t105 t106 _ A4.out).mono ?_); rintro e w' ⟨rfl, ⟨nd, rfl⟩⟩; refine ⟨_, rfl, ?_⟩))
      go_ret
      exact ⟨by first | rfl | (simp; done) | (simp [*]; done), by repeat (first | exact Drawn0.refl _ | apply Drawn0.step)⟩
    · rw [if_neg c6] at H
      have c6b0 : decide ((IntKind.u64.wrap (a1)) < t105) = false := decide_eq_false c6
      clear c6
      by_cases c7 : t105 = (IntKind.u64.wrap (a1))
      · rw [if_pos c7] at H
        have c7b0 : (t105 == (IntKind.u64.wrap (a1))) = true := beq_iff_eq.mpr c7
        have c7b1 : (t105 != (IntKind.u64.wrap (a1))) = false := bne_eq_false_iff_eq.mpr c7
        clear c7
        obtain rfl := Option.some.inj H
        go_enter Tryd.func76, Tryd.ntmps76
        go_wp2_with (first | ((with_reducible refine gate_callee (f := 81) rfl ?_); refine goesL_ (some 15) rfl rfl Tryd.func81 (by kernel_rfl) rfl #[.int .u64 a0, .int .u64 a0] rfl (by (try simp only [List.map_toArray, List.map_cons, List.map_nil]); first | done | rfl | (simp only [List.length_drop, List.length_take]; rfl)) ?_; (with_reducible refine (bits_Mul64.calls a0 a0 t105 t106 _ A4.out).mono ?_); rintro e w' ⟨rfl, ⟨nd, rfl⟩⟩; refine ⟨_, rfl, ?_⟩))
        go_ret
        exact ⟨by first | rfl | (simp; done) | (simp [*]; done), by repeat (first | exact Drawn0.refl _ | apply Drawn0.step)⟩
      · rw [if_neg c7] at H
        have c7b0 : (t105 == (IntKind.u64.wrap (a1))) = false := beq_eq_false_iff_ne.mpr c7
        have c7b1 : (t105 != (IntKind.u64.wrap (a1))) = true := bne_iff_ne.mpr c7
        obtain rfl := Option.some.inj H
        go_enter Tryd.func76, Tryd.ntmps76
        go_wp2_with (first | ((with_reducible refine gate_callee (f := 81) rfl ?_); refine goesL_ (some 15) rfl rfl Tryd.func81 (by kernel_rfl) rfl #[.int .u64 a0, .int .u64 a0] rfl (by (try simp only [List.map_toArray, List.map_cons, List.map_nil]); first | done | rfl | (simp only [List.length_drop, List.length_take]; rfl)) ?_; (with_reducible refine (bits_Mul64.calls a0 a0 t105 t106 _ A4.out).mono ?_); rintro e w' ⟨rfl, ⟨nd, rfl⟩⟩; refine ⟨_, rfl, ?_⟩))
        go_ret
        exact ⟨by first | rfl | (simp; done) | (simp [*]; done), by repeat (first | exact Drawn0.refl _ | apply Drawn0.step)⟩
  · rw [if_neg c5] at H
    have c5b0 : (a2 == 2) = false := beq_eq_false_iff_ne.mpr c5
    have c5b1 : (a2 != 2) = true := bne_iff_ne.mpr c5
    replace H := Option.bind_eq_some_iff.mp H
    obtain ⟨⟨t107, t108⟩, A80, H⟩ := H
    replace H : (if (IntKind.u64.wrap (t107 + (IntKind.u64.wrap (t105 * a0)))) > (IntKind.u64.wrap ((IntKind.u64.wrap (a1)) * 4294967296)) then (some true) else (if (IntKind.u64.wrap (t107 + (IntKind.u64.wrap (t105 * a0)))) = (IntKind.u64.wrap ((IntKind.u64.wrap (a1)) * 4294967296)) then (some (decide (t108 > 0))) else (some false))) = some r := H
    have A8 := Aside0.mk A80
    clear A80
    by_cases c9 : (IntKind.u64.wrap (t107 + (IntKind.u64.wrap (t105 * a0)))) > (IntKind.u64.wrap ((IntKind.u64.wrap (a1)) * 4294967296))
    · rw [if_pos c9] at H
      have c9b0 : decide ((IntKind.u64.wrap ((IntKind.u64.wrap (a1)) * 4294967296)) < (IntKind.u64.wrap (t107 + (IntKind.u64.wrap (t105 * a0))))) = true := decide_eq_true c9
      clear c9
      obtain rfl := Option.some.inj H
      go_enter Tryd.func76, Tryd.ntmps76
      go_wp2_with (first | ((with_reducible refine gate_callee (f := 81) rfl ?_); refine goesL_ (some 15) rfl rfl Tryd.func81 (by kernel_rfl) rfl #[.int .u64 a0, .int .u64 a0] rfl (by (try simp only [List.map_toArray, List.map_cons, List.map_nil]); first | done | rfl | (simp only [List.length_drop, List.length_take]; rfl)) ?_; (with_reducible refine (bits_Mul64.calls a0 a0 t105 t106 _ A4.out).mono ?_); rintro e w' ⟨rfl, ⟨nd, rfl⟩⟩; refine ⟨_, rfl, ?_⟩) | ((with_reducible refine gate_callee (f := 81) rfl ?_); refine goesL_ (some 37) rfl rfl Tryd.func81 (by kernel_rfl) rfl #[.int .u64 t106, .int .u64 a0] rfl (by (try simp only [List.map_toArray, List.map_cons, List.map_nil]); first | done | rfl | (simp only [List.length_drop, List.length_take]; rfl)) ?_; (with_reducible refine (bits_Mul64.calls t106 a0 t107 t108 _ A8.out).mono ?_); rintro e w' ⟨rfl, ⟨nd, rfl⟩⟩; refine ⟨_, rfl, ?_⟩))
      go_ret
      exact ⟨by first | rfl | (simp; done) | (simp [*]; done), by repeat (first | exact Drawn0.refl _ | apply Drawn0.step)⟩
    · rw [if_neg c9] at H
      have c9b0 : decide ((IntKind.u64.wrap ((IntKind.u64.wrap (a1)) * 4294967296)) < (IntKind.u64.wrap (t107 + (IntKind.u64.wrap (t105 * a0))))) = false := decide_eq_false c9
      clear c9
      by_cases c10 : (IntKind.u64.wrap (t107 + (IntKind.u64.wrap (t105 * a0)))) = (IntKind.u64.wrap ((IntKind.u64.wrap (a1)) * 4294967296))
      · rw [if_pos c10] at H
        have c10b0 : ((IntKind.u64.wrap (t107 + (IntKind.u64.wrap (t105 * a0)))) == (IntKind.u64.wrap ((IntKind.u64.wrap (a1)) * 4294967296))) = true := beq_iff_eq.mpr c10
        have c10b1 : ((IntKind.u64.wrap (t107 + (IntKind.u64.wrap (t105 * a0)))) != (IntKind.u64.wrap ((IntKind.u64.wrap (a1)) * 4294967296))) = false := bne_eq_false_iff_eq.mpr c10
        clear c10
        obtain rfl := Option.some.inj H
        go_enter Tryd.func76, Tryd.ntmps76
        go_wp2_with (first | ((with_reducible refine gate_callee (f := 81) rfl ?_); refine goesL_ (some 15) rfl rfl Tryd.func81 (by kernel_rfl) rfl #[.int .u64 a0, .int .u64 a0] rfl (by (try simp only [List.map_toArray, List.map_cons, List.map_nil]); first | done | rfl | (simp only [List.length_drop, List.length_take]; rfl)) ?_; (with_reducible refine (bits_Mul64.calls a0 a0 t105 t106 _ A4.out).mono ?_); rintro e w' ⟨rfl, ⟨nd, rfl⟩⟩; refine ⟨_, rfl, ?_⟩) | ((with_reducible refine gate_callee (f := 81) rfl ?_); refine goesL_ (some 37) rfl rfl Tryd.func81 (by kernel_rfl) rfl #[.int .u64 t106, .int .u64 a0] rfl (by (try simp only [List.map_toArray, List.map_cons, List.map_nil]); first | done | rfl | (simp only [List.length_drop, List.length_take]; rfl)) ?_; (with_reducible refine (bits_Mul64.calls t106 a0 t107 t108 _ A8.out).mono ?_); rintro e w' ⟨rfl, ⟨nd, rfl⟩⟩; refine ⟨_, rfl, ?_⟩))
        go_ret
        exact ⟨by first | rfl | (simp; done) | (simp [*]; done), by repeat (first | exact Drawn0.refl _ | apply Drawn0.step)⟩
      · rw [if_neg c10] at H
        have c10b0 : ((IntKind.u64.wrap (t107 + (IntKind.u64.wrap (t105 * a0)))) == (IntKind.u64.wrap ((IntKind.u64.wrap (a1)) * 4294967296))) = false := beq_eq_false_iff_ne.mpr c10
        have c10b1 : ((IntKind.u64.wrap (t107 + (IntKind.u64.wrap (t105 * a0)))) != (IntKind.u64.wrap ((IntKind.u64.wrap (a1)) * 4294967296))) = true := bne_iff_ne.mpr c10
        obtain rfl := Option.some.inj H
        go_enter Tryd.func76, Tryd.ntmps76
        go_wp2_with (first | ((with_reducible refine gate_callee (f := 81) rfl ?_); refine goesL_ (some 15) rfl rfl Tryd.func81 (by kernel_rfl) rfl #[.int .u64 a0, .int .u64 a0] rfl (by (try simp only [List.map_toArray, List.map_cons, List.map_nil]); first | done | rfl | (simp only [List.length_drop, List.length_take]; rfl)) ?_; (with_reducible refine (bits_Mul64.calls a0 a0 t105 t106 _ A4.out).mono ?_); rintro e w' ⟨rfl, ⟨nd, rfl⟩⟩; refine ⟨_, rfl, ?_⟩) | ((with_reducible refine gate_callee (f := 81) rfl ?_); refine goesL_ (some 37) rfl rfl Tryd.func81 (by kernel_rfl) rfl #[.int .u64 t106, .int .u64 a0] rfl (by (try simp only [List.map_toArray, List.map_cons, List.map_nil]); first | done | rfl | (simp only [List.length_drop, List.length_take]; rfl)) ?_; (with_reducible refine (bits_Mul64.calls t106 a0 t107 t108 _ A8.out).mono ?_); rintro e w' ⟨rfl, ⟨nd, rfl⟩⟩; refine ⟨_, rfl, ?_⟩))
        go_ret
        exact ⟨by first | rfl | (simp; done) | (simp [*]; done), by repeat (first | exact Drawn0.refl _ | apply Drawn0.step)⟩

end Go.Proofs.YtalghfnjelcpnaaDoor.Db
