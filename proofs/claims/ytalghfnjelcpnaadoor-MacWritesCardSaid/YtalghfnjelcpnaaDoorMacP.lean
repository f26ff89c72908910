/- MacParts: what the call returns, for every key and parts. Condition: the table 'rounds' holds what the program's text lays. -/
import Derived.Test.YtalghfnjelcpnaaDoorMacI
import Derived.Test.YtalghfnjelcpnaaDoorMacK
namespace Go.Proofs.YtalghfnjelcpnaaDoor
set_option linter.unusedVariables false
set_option linter.unusedSimpArgs false
open Go.RowKit Go.Proofs.YtalghfnjelcpnaaDoorW.PrintWords Go.Proofs.YtalghfnjelcpnaaDoor.Db

theorem flatm_bd (ps : List (List Int)) (k m : Nat) (hk : k ≤ ps.length) (h : ∀ j, j < k → (ps.getD j []).length ≤ m) : (ps.take k).flatten.length ≤ m * k := by
  induction k with
  | zero => simp
  | succ k ih =>
    rw [flat_step ps k (by omega), List.length_append, Nat.mul_succ]
    have h1 := ih (by omega) (fun j hj => h j (by omega))
    have h2 := h k (Nat.lt_succ_self k)
    omega
theorem b8m_flat {ps : List (List Int)} (h : ∀ p ∈ ps, B8s p) : B8s ps.flatten := fun x hx => by
  obtain ⟨p, hp, hxp⟩ := List.mem_flatten.1 hx
  exact h p hp x hxp
/-- The two questions by one contract: of the key alone, and of the parts. -/
theorem great4_two (A : Option Addr) (n cap : Nat) (ps : List (List Int)) (r : Bool) (w : World) (hn : ps.length = n) (hr : gr ps = r) (hC : Kd.C (Kd.slice 5 (Kd.int .u8)) w A ps.length ps) :
    Calls Tryd.prog 38 #[.slice A n cap] w fun e w' => e = .returned (.bool r) ∧ w' = w := by
  subst hn; subst hr; exact great4_any A cap ps w hC
set_option maxHeartbeats 4000000 in
set_option maxRecDepth 100000 in
theorem macParts_any (A B : Option Addr) (ca cb : Nat) (l : List Int) (ps : List (List Int)) (w : World) (hR : Rounds w) (hl8 : B8s l) (hp8 : ∀ p ∈ ps, B8s p) (hA : Kd.C (Kd.int .u8) w A l.length l) (ha : l.length ≤ ca) (hB : Kd.C (Kd.slice 5 (Kd.int .u8)) w B ps.length ps) :
    Calls Tryd.prog 12 #[.slice A l.length ca, .slice B ps.length cb] w fun e w' => e = .returned (.bool true) ∧ Below w.heap.size w w' := by
  have HR := Aside0.mk hR
  have hpos := Aside0.mk hR.pos
  have HA := Aside0.mk hA
  have HB := Aside0.mk hB
  have Ha := Aside0.mk ha
  have Hl8 := Aside0.mk hl8
  have Hb := Aside0.mk (b8m_flat hp8)
  obtain ⟨ys, hys⟩ : ∃ ys, macL l ps.flatten = ys := ⟨_, rfl⟩
  have hyl : ys.length = 32 := by rw [← hys]; exact macL_len _ _
  have q1 := eql24 ys ys hyl hyl
  rw [decide_eq_true rfl] at q1
  have q2 := fun (o : BinOp) (x y : Operand) => guard24 o x y ys ys
  have Hys := Aside0.mk hys
  obtain ⟨g, hg⟩ : ∃ g, gr [l] = g := ⟨_, rfl⟩
  obtain ⟨h, hh⟩ : ∃ g, gr ps = g := ⟨_, rfl⟩
  have Hg := Aside0.mk hg
  have Hh := Aside0.mk hh
  have Hps := Aside0.mk hB.2.1
  clear hR hA hB ha hl8 hp8 hys hyl
  go_enter Tryd.func12, Tryd.ntmps12
  cases g with
  | true =>
    clear hg hh
    go_wp2_with (first
      | (go_at_call 37; refine (wakes4_any _ HR.out).mono ?_; rintro e w1 ⟨rfl, hB1⟩)
      | (go_at_call 38; refine (great4_any (some ⟨w1.heap.size, 0, none⟩) 1 [l] _ (arg1_C w1 A ca l Ha.out (Kd.C_below HA.out hB1))).mono ?_; rintro e w2 ⟨rfl, rfl⟩; rw [Hg.out]))
    go_ret
    exact ⟨rfl, hB1.alloc hB1.size _⟩
  | false =>
    have Hll := Aside0.mk (show l.length ≤ 300 from (gr_le hg).1 l List.mem_cons_self)
    clear hg
    cases h with
    | true =>
      clear hh
      go_wp2_with (first
        | (go_at_call 37; refine (wakes4_any _ HR.out).mono ?_; rintro e w1 ⟨rfl, hB1⟩; have HB2 := Aside0.mk (hB1.alloc hB1.size (.cells #[.slice A l.length ca] 22)); have HC1 := Aside0.mk (arg1_C w1 A ca l Ha.out (Kd.C_below HA.out hB1)))
        | (go_at_call 38; refine Calls.mono (great4_two _ _ _ _ _ _ (by first | exact (show ([l] : List (List Int)).length = 1 from rfl) | exact (show ps.length = ps.length from rfl)) (by first | exact Hg.out | exact Hh.out) (by first | exact HC1.out | exact Kd.C_below HB.out HB2.out)) ?_; rintro e w2 ⟨rfl, rfl⟩))
      go_ret
      exact ⟨rfl, HB2.out⟩
    | false =>
      have hgl := gr_le hh
      have Hpl := Aside0.mk hgl.2
      have Hle := Aside0.mk (show ∀ j, j < ps.length → (ps.getD j []).length ≤ 300 from fun j hj => by
        rw [List.getD_eq_getElem?_getD, List.getElem?_eq_getElem hj]
        exact hgl.1 _ (List.getElem_mem hj))
      clear hh hgl
      go_wp2_with (first
        | (go_at_call 37; refine (wakes4_any _ HR.out).mono ?_; rintro e w1 ⟨rfl, hB1⟩; have HB2 := Aside0.mk (hB1.alloc hB1.size (.cells #[.slice A l.length ca] 22)); have HC1 := Aside0.mk (arg1_C w1 A ca l Ha.out (Kd.C_below HA.out hB1)))
        | (go_at_call 38; refine Calls.mono (great4_two _ _ _ _ _ _ (by first | exact (show ([l] : List (List Int)).length = 1 from rfl) | exact (show ps.length = ps.length from rfl)) (by first | exact Hg.out | exact Hh.out) (by first | exact HC1.out | exact Kd.C_below HB.out HB2.out)) ?_; rintro e w2 ⟨rfl, rfl⟩))
      have hB2 := HB2.out
      obtain ⟨w3, hw3⟩ : ∃ w3, w1.alloc (.cells #[.slice A l.length ca] 22) = w3 := ⟨_, rfl⟩
      rw [hw3] at hB2
      rw [hw3]
      clear hw3 HB2 HC1 hB1
      go_loopw [5, 19] (fun va i wr => ∃ k : Nat, k ≤ ps.length ∧ i = .int .i64 k ∧ Kd.R (Kd.int .u8) 5 wr w.heap.size (fun _ => True) va (ps.take k).flatten ∧ Below w.heap.size w wr)
        (fun va i _ => ps.length - (intOf i).toNat)
      case atStart => exact ⟨0, by omega, rfl, Kd.R_nil _ _ _ _ _, hB2⟩
      case round =>
        clear hB2
        obtain ⟨k, hk, rfl, hV, hB⟩ := hrel
        have hfl := flatm_bd ps k 300 hk (fun j hj => Hle.out j (by omega))
        obtain ⟨al, hal⟩ : ∃ al, (ps.take k).flatten = al := ⟨_, rfl⟩
        rw [hal] at hV hfl
        obtain ⟨Aa, ka, rfl⟩ := Kd.R_slice hV
        have Hal := Aside0.mk hal
        have Hfl := Aside0.mk (show al.length ≤ 6000 by have := Hpl.out; omega)
        by_cases hlt : k < ps.length
        · obtain ⟨b, o, p, c, rfl, hbl, hc, hCi⟩ := parts_cell HB.out k hlt
          obtain ⟨q, hq0⟩ : ∃ q, ps.getD k [] = q := ⟨_, rfl⟩
          have Hm := Aside0.mk (show q.length ≤ 300 by rw [← hq0]; exact Hle.out k hlt)
          rw [hq0] at hc hCi
          have hc1 := (hB.cell (p := ⟨b, o + k, none⟩) hbl).trans hc
          have HCi := Aside0.mk hCi
          have hkl : (k : Int) < ps.length := by omega
          have wk : wrap64 ((k : Int) + 1) = ((k + 1 : Nat) : Int) := by
            have h9 := Hpl.out
            rw [w64 (by omega) (by omega)]
            rfl
          have Hq := Aside0.mk hq0
          have Hlt := Aside0.mk hlt
          clear hc hCi hfl hal hq0 hlt hk
          go_wp2_with (first
            | ((with_reducible refine gate_dst (N := 25) rfl ?_); refine Kd.R_append_rows (Kd.int .u8) (w0 := w) w.heap.size rfl (.tmp 23) (.tmp 24) 22 5 (.int .u8 0) 1 rfl Tryd.underlying22 info5d rfl (by decide) (by omega) (.slice Aa al.length ka) al q _ _ _ (fun _ => True) (fun _ => False) rfl rfl hV (Kd.C_below HCi.out hB) (fun _ _ h => h) (fun _ h => h.elim) (fun _ _ => trivial) hB hB.size (by have := Hfl.out; have := Hm.out; omega) ?_; intro v2 w2 ho2 hb2 _ _))
          go_roundw
          case rel =>
            refine ⟨k + 1, Hlt.out, by rw [wk], ?_, hb2⟩
            rw [flat_step ps k Hlt.out, Hq.out, Hal.out]
            exact ho2
          case measure =>
            rw [wk]
            show ps.length - (k + 1) < ps.length - k
            exact Nat.sub_lt_sub_left Hlt.out (Nat.lt_succ_self k)
        · obtain rfl : k = ps.length := by omega
          rw [List.take_of_length_le (Nat.le_refl _)] at hal
          have Hal2 := Aside0.mk hal
          clear hfl hal hk hlt
          go_wp2_with (first
            | (go_at_call 39; refine (MSum_any A ca l _ cb ps _ (HR.out.below hB hpos.out) (Kd.C_below HA.out hB) Ha.out (by have := Hll.out; omega) (Kd.C_below HB.out hB) (by rw [Hal2.out]; have := Hfl.out; omega)).mono ?_; rintro e w4 ⟨rfl, hb4⟩; rw [Hys.out]; have hB4 := hB.trans (hb4.mono hB.size); have hV4 := Kd.C_below (Kd.R_reads' hV).2.2 hb4; clear hb4)
            | (go_at_call 40; refine (rMSum_any A Aa ca ka l al _ Hl8.out (by rw [← Hal2.out]; exact Hb.out) (Kd.C_below HA.out hB4) Ha.out (by have := Hll.out; omega) hV4 (by have := Hfl.out; omega)).mono ?_; rintro e w5 ⟨rfl, hb5⟩; rw [← Hal2.out, Hys.out]; replace hB4 := hB4.trans (hb5.mono hB4.size); clear hb5))
          go_ret
          exact ⟨rfl, hB4⟩
end Go.Proofs.YtalghfnjelcpnaaDoor
