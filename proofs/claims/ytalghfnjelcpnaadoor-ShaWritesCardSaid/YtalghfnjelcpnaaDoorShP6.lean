/- ShaParts: what the call returns, for every parts. Condition: the table 'rounds' holds what the program's text lays. -/
import Derived.Test.YtalghfnjelcpnaaDoorShS
namespace Go.Proofs.YtalghfnjelcpnaaDoor
set_option linter.unusedVariables false
set_option linter.unusedSimpArgs false
open Go.RowKit Go.Proofs.YtalghfnjelcpnaaDoorW.PrintWords Go.Proofs.YtalghfnjelcpnaaDoor.Db

theorem flat_bd (ps : List (List Int)) (k m : Nat) (hk : k ≤ ps.length) (h : ∀ j, j < k → (ps.getD j []).length ≤ m) : (ps.take k).flatten.length ≤ m * k := by
  induction k with
  | zero => simp
  | succ k ih =>
    rw [flat_step ps k (by omega), List.length_append, Nat.mul_succ]
    have h1 := ih (by omega) (fun j hj => h j (by omega))
    have h2 := h k (Nat.lt_succ_self k)
    omega
theorem b8_flat {ps : List (List Int)} (h : ∀ p ∈ ps, B8s p) : B8s ps.flatten := fun x hx => by
  obtain ⟨p, hp, hxp⟩ := List.mem_flatten.1 hx
  exact h p hp x hxp
set_option maxHeartbeats 4000000 in
set_option maxRecDepth 100000 in
theorem parts_any (A : Option Addr) (cap : Nat) (ps : List (List Int)) (w : World) (hR : Rounds w) (hb8 : ∀ p ∈ ps, B8s p) (hC : Kd.C (Kd.slice 5 (Kd.int .u8)) w A ps.length ps) :
    Calls Tryd.prog 6 #[.slice A ps.length cap] w fun e w' => e = .returned (.bool true) ∧ Below w.heap.size w w' := by
  have HR := Aside0.mk hR
  have hpos := Aside0.mk hR.pos
  have HC := Aside0.mk hC
  have Hb := Aside0.mk (b8_flat hb8)
  by_cases h : 20 < ps.length
  · have d1 : decide (20 < (ps.length : Int)) = true := by simp; omega
    clear hR hC hb8 h
    go_enter Tryd.func6, Tryd.ntmps6
    go_wp2_with (first
      | (go_at_call 20; refine (wakes3_any _ HR.out).mono ?_; rintro e w1 ⟨rfl, hB⟩))
    go_ret
    exact ⟨rfl, hB⟩
  · have d1 : decide (20 < (ps.length : Int)) = false := by simp; omega
    have Hl := Aside0.mk (show ps.length ≤ 20 by omega)
    obtain ⟨ys, hys⟩ : ∃ ys, sumL ps.flatten = ys := ⟨_, rfl⟩
    have hyl : ys.length = 32 := by rw [← hys]; exact sumL_len _
    have q1 := eql24 ys ys hyl hyl
    rw [decide_eq_true rfl] at q1
    have q2 := fun (o : BinOp) (x y : Operand) => guard24 o x y ys ys
    have Hys := Aside0.mk hys
    clear hyl hR hC hb8 hys h
    go_enter Tryd.func6, Tryd.ntmps6
    go_wp2_with (first
      | (go_at_call 20; refine (wakes3_any _ HR.out).mono ?_; rintro e w1 ⟨rfl, hB⟩))
    go_loopw [3, 13] (fun va i wr => ∃ k : Nat, k ≤ ps.length ∧ i = .int .i64 k ∧ (∀ j, j < k → (ps.getD j []).length ≤ 200) ∧ Kd.R (Kd.int .u8) 5 wr w.heap.size (fun _ => True) va (ps.take k).flatten ∧ Below w.heap.size w wr)
      (fun va i _ => ps.length - (intOf i).toNat)
    case atStart => exact ⟨0, by omega, rfl, fun j hj => by omega, Kd.R_nil _ _ _ _ _, hB⟩
    case round =>
      clear hB
      obtain ⟨k, hk, rfl, hle, hV, hB⟩ := hrel
      have hfl := flat_bd ps k 200 hk hle
      obtain ⟨al, hal⟩ : ∃ al, (ps.take k).flatten = al := ⟨_, rfl⟩
      rw [hal] at hV hfl
      obtain ⟨Aa, ca, rfl⟩ := Kd.R_slice hV
      have Hal := Aside0.mk hal
      by_cases hlt : k < ps.length
      · obtain ⟨b, o, p, c, rfl, hbl, hc, hCi⟩ := parts_cell HC.out k hlt
        obtain ⟨q, hq0⟩ : ∃ q, ps.getD k [] = q := ⟨_, rfl⟩
        rw [hq0] at hc hCi
        have hc1 := (hB.cell (p := ⟨b, o + k, none⟩) hbl).trans hc
        have HCi := Aside0.mk hCi
        have hkl : (k : Int) < ps.length := by omega
        have wk : wrap64 ((k : Int) + 1) = ((k + 1 : Nat) : Int) := by
          have h9 := Hl.out
          rw [w64 (by omega) (by omega)]
          rfl
        have Hq := Aside0.mk hq0
        have Hle := Aside0.mk hle
        have Hlt := Aside0.mk hlt
        by_cases hm : 200 < q.length
        · have d2 : decide (200 < (q.length : Int)) = true := by simp; omega
          clear hc hCi hfl hle hal hq0 hlt hk hm
          go_wp2
          go_ret
          exact ⟨rfl, hB⟩
        · have d2 : decide (200 < (q.length : Int)) = false := by simp; omega
          have Hm := Aside0.mk (show q.length ≤ 200 by omega)
          have Hfl := Aside0.mk (show al.length ≤ 4000 by have := Hl.out; omega)
          clear hc hCi hfl hle hal hq0 hlt hk hm
          go_wp2_with (first
            | ((with_reducible refine gate_dst (N := 22) rfl ?_); refine Kd.R_append_rows (Kd.int .u8) (w0 := w) w.heap.size rfl (.tmp 20) (.tmp 21) 22 5 (.int .u8 0) 1 rfl Tryd.underlying22 info5d rfl (by decide) (by omega) (.slice Aa al.length ca) al q _ _ _ (fun _ => True) (fun _ => False) rfl rfl hV (Kd.C_below HCi.out hB) (fun _ _ h => h) (fun _ h => h.elim) (fun _ _ => trivial) hB hB.size (by have := Hfl.out; have := Hm.out; omega) ?_; intro v2 w2 ho2 hb2 _ _))
          go_roundw
          case rel =>
            refine ⟨k + 1, Hlt.out, by rw [wk], ?_, ?_, hb2⟩
            · intro j hj
              rcases Nat.lt_or_ge j k with h1 | h1
              · exact Hle.out j h1
              · obtain rfl : j = k := by omega
                rw [Hq.out]; exact Hm.out
            · rw [flat_step ps k Hlt.out, Hq.out, Hal.out]
              exact ho2
          case measure =>
            rw [wk]
            show ps.length - (k + 1) < ps.length - k
            exact Nat.sub_lt_sub_left Hlt.out (Nat.lt_succ_self k)
      · obtain rfl : k = ps.length := by omega
        rw [List.take_of_length_le (Nat.le_refl _)] at hal
        have Hfl := Aside0.mk (show al.length ≤ 4000 by have := Hl.out; omega)
        have Hal2 := Aside0.mk hal
        clear hfl hal hle hk hlt
        go_wp2_with (first
          | (go_at_call 21; refine (SSum_any A cap ps _ (HR.out.below hB hpos.out) (Kd.C_below HC.out hB) (by rw [Hal2.out]; have := Hfl.out; omega)).mono ?_; rintro e w2 ⟨rfl, hb2⟩; rw [Hys.out]; have hB2 := hB.trans (hb2.mono hB.size); have hV2 := Kd.C_below (Kd.R_reads' hV).2.2 hb2; clear hb2)
          | (go_at_call 22; refine (refSum_any Aa ca al _ (by rw [← Hal2.out]; exact Hb.out) hV2 (by have := Hfl.out; omega)).mono ?_; rintro e w3 ⟨rfl, hb3⟩; rw [← Hal2.out, Hys.out]; replace hB2 := hB2.trans (hb3.mono hB2.size); clear hb3))
        go_ret
        exact ⟨rfl, hB2⟩
end Go.Proofs.YtalghfnjelcpnaaDoor
