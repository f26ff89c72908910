/- ShaChains: what the call returns, for every blocks. Condition: the table 'rounds' holds what the program's text lays. -/
import Derived.Test.YtalghfnjelcpnaaDoorSd
import Derived.Laws.CopyOwn
namespace Go.Proofs.YtalghfnjelcpnaaDoor
set_option linter.unusedVariables false
set_option linter.unusedSimpArgs false
open Go.RowKit Go.Proofs.YtalghfnjelcpnaaDoorW.PrintWords Go.Proofs.YtalghfnjelcpnaaDoor.Db

section
variable {o : Oper} {ops : Array Oper} {rest : List Oper} {a : Act} {Q : Exit → Act → World → Prop} {w : World} {T : TypeId}
theorem copy_arrc (hgd : o.guard = none) (s x : Operand) (ho : o.op = .call { callee := .builtin .copy, args := #[s, x], argTypes := #[22, 22] }) (g n m c : Nat) (A : Option Addr) (xs ys : List Int)
    (hs : a.eval s = .slice (some ⟨g, 0, none⟩) n n) (hx : a.eval x = .slice A m c) (hm : ys.length = m) (h : Arr w g .u8 T xs) (hl : xs.length = n) (hle : ys.length ≤ n) (hC : Kd.C (Kd.int .u8) w A ys.length ys)
    (K : ∀ w', w.grownBy w' (some g) → w'.heap.size = w.heap.size → Arr w' g .u8 T (ys ++ xs.drop ys.length) → wpList Tryd.prog ops Q rest (a.put o.dst (goInt ys.length)) w') : wpList Tryd.prog ops Q (o :: rest) a w := by
  subst hm
  rcases Nat.eq_zero_or_pos ys.length with h0 | h0
  · obtain rfl := List.eq_nil_of_length_eq_zero h0
    refine wpList_copy_nothing hgd s x 22 22 ho 5 Tryd.underlying22 (by kernel_rfl) _ _ n n _ c hs hx (by simp) ?_
    exact K w ⟨rfl, rfl, rfl, Nat.le_refl _, fun _ _ _ => rfl⟩ rfl h
  · obtain ⟨ad, rfl, hc⟩ := (Kd.reads_of_C (d := (0 : Int)) hC).2.2 h0
    refine wpList_copy_own hgd s x 22 22 ho 5 Tryd.underlying22 (by kernel_rfl) g 0 n n ad ys.length c hs hx _ T h (ys.map (Value.int .u8)) (by rw [List.length_map]; exact (Nat.min_eq_left hle).symm) (fun j v hv => ?_) (by simp; omega) (one_cells _) ?_
    · have hj : j < ys.length := by have := (List.getElem?_eq_some_iff.1 hv).1; simpa using this
      rw [hc j hj, ← hv, List.getElem?_map, List.getElem?_eq_getElem hj]
      simp [List.getD_eq_getElem?_getD, List.getElem?_eq_getElem hj]
    · rw [List.length_map]
      refine K _ (setRow_grown w g _) (setRow_size w g _) ?_
      exact (setRow_heap w g _ _ T (0, 0) h).trans (by simp)
end
theorem Pad_any (n m : Nat) (hn : n < 1152921504606846976) (hm : (pl n).length = m) (w : World) : Calls Tryd.prog 25 #[.int .u64 (n : Int)] w fun e w' => ∃ p c, e = .returned (.slice p m c) ∧ Kd.C (Kd.int .u8) w' p (pl n).length (pl n) ∧ Below w.heap.size w w' := by
  subst hm
  refine (sha_Pad.calls 100 n (pl n) w (pad_ev n hn 100 (by omega))).mono ?_
  rintro e w' ⟨v, rfl, ho, hb⟩
  obtain ⟨p, c, rfl, _, hC⟩ := Kd.R_reads ho
  exact ⟨p, c, rfl, hC, hb⟩
/-- Blocks lie there, one behind the other. -/
def BlkC (w : World) (A : Option Addr) (ps : List (List Int)) : Prop :=
  (∀ p ∈ ps, p.length = 64) ∧ (0 < ps.length → ∃ b o, A = some ⟨b, o, none⟩ ∧ b < w.heap.size ∧ ∀ k, k < ps.length → w.rangeAt b (o + k * 64) ((ps.getD k []).map (Value.int .u8)))
theorem rangeAt_below {B : Nat} {w w1 : World} {b o : Nat} {cs : List Value} (h : w.rangeAt b o cs) (hb : Below B w w1) (hB : b < B) : w1.rangeAt b o cs := fun j v hv => (hb.cell (p := ⟨b, o + j, none⟩) hB).trans (h j v hv)
theorem flat_len (ps : List (List Int)) (h : ∀ p ∈ ps, p.length = 64) : ∀ k, k ≤ ps.length → (ps.take k).flatten.length = 64 * k := by
  intro k
  induction k with
  | zero => intro _; rfl
  | succ k ih =>
    intro hk
    rw [flat_step ps k (by omega), List.length_append, ih (by omega), List.getD_eq_getElem?_getD, List.getElem?_eq_getElem (by omega : k < ps.length)]
    have := h _ (List.getElem_mem (by omega : k < ps.length))
    simp only [Option.getD_some]
    omega
theorem flat_block (ps : List (List Int)) (h : ∀ p ∈ ps, p.length = 64) (t : List Int) (k : Nat) (hk : k < ps.length) : ((ps.flatten ++ t).drop (64 * k)).take 64 = ps.getD k [] := by
  have e1 : ps.flatten = (ps.take k).flatten ++ (ps.getD k [] ++ (ps.drop (k + 1)).flatten) := by
    rw [← List.append_assoc, ← flat_step ps k hk, ← List.flatten_append, List.take_append_drop]
  have l1 := flat_len ps h k (by omega)
  have l2 : (ps.getD k []).length = 64 := by
    rw [List.getD_eq_getElem?_getD, List.getElem?_eq_getElem hk]
    exact h _ (List.getElem_mem hk)
  rw [e1, List.append_assoc, List.drop_append_of_le_length (by omega), List.drop_eq_nil_of_le (by omega), List.nil_append, List.append_assoc, List.take_append_of_le_length (by omega), List.take_of_length_le (by omega)]
theorem flat_last (ps : List (List Int)) (h : ∀ p ∈ ps, p.length = 64) (t : List Int) (ht : t.length = 64) : ((ps.flatten ++ t).drop (64 * ps.length)).take 64 = t := by
  have l1 := flat_len ps h ps.length (Nat.le_refl _)
  rw [List.take_of_length_le (Nat.le_refl _)] at l1
  rw [List.drop_append_of_le_length (by omega), List.drop_eq_nil_of_le (by omega), List.nil_append, List.take_of_length_le (by omega)]
theorem blk_Cc {w : World} {g : Nat} {bl : List Int} (h : Arr w g .u8 30 bl) (hl : bl.length = 64) : Kd.C (Kd.int .u8) w (some ⟨g, 0, none⟩) 64 bl := by
  have := lit_C h (by omega : bl.length ≤ 9223372036854775807)
  rwa [hl] at this
theorem pl_64 (n : Nat) (h : n % 64 = 0) : (pl n).length = 64 := by rw [pl_len]; omega
theorem copy_all (P : List Int) (h : P.length = 64) : P ++ (List.replicate 64 (0 : Int)).drop P.length = P := by rw [h]; simp
/-- The words behind so many blocks. -/
def stk (ps : List (List Int)) (k : Nat) : List Int := (chn (ps.flatten ++ pl ps.flatten.length) k).st
theorem stk_len (ps : List (List Int)) (h : ∀ p ∈ ps, p.length = 64) (k : Nat) (hk : k ≤ ps.length) : (stk ps k).length = 8 := by
  have l1 := flat_len ps h ps.length (Nat.le_refl _)
  rw [List.take_of_length_le (Nat.le_refl _)] at l1
  exact (chn_all _ k (by rw [List.length_append]; omega)).2.2.2
theorem stk_step (ps : List (List Int)) (h : ∀ p ∈ ps, p.length = 64) (k : Nat) (hk : k < ps.length) : stk ps (k + 1) = tr (stk ps k) (ps.getD k []) := by
  have l1 := flat_len ps h ps.length (Nat.le_refl _)
  rw [List.take_of_length_le (Nat.le_refl _)] at l1
  unfold stk
  rw [chn_st _ k (by rw [List.length_append]; omega), flat_block ps h _ k hk]
theorem stk_last (ps : List (List Int)) (h : ∀ p ∈ ps, p.length = 64) : sumL ps.flatten = outs (tr (stk ps ps.length) (pl ps.flatten.length)) := by
  have l1 := flat_len ps h ps.length (Nat.le_refl _)
  rw [List.take_of_length_le (Nat.le_refl _)] at l1
  have l2 := pl_64 ps.flatten.length (by omega)
  rw [sum_chn ps.flatten (ps.length + 1) (by rw [List.length_append, l2]; omega), chn_st _ ps.length (by rw [List.length_append]; omega), flat_last ps h _ l2]
  rfl
set_option maxHeartbeats 4000000 in
set_option maxRecDepth 100000 in
theorem chains_any (A : Option Addr) (cap : Nat) (ps : List (List Int)) (w : World) (hR : Rounds w) (hC : BlkC w A ps) (hc : ps.length ≤ cap) :
    Calls Tryd.prog 7 #[.slice A ps.length cap] w fun e w' => e = .returned (.bool true) ∧ Below w.heap.size w w' := by
  have HR := Aside0.mk hR
  have hpos := Aside0.mk hR.pos
  have HC := Aside0.mk hC
  by_cases h : 8 < ps.length
  · have d1 : decide (8 < (ps.length : Int)) = true := by simp; omega
    clear hR hC h hc
    go_enter Tryd.func7, Tryd.ntmps7
    go_wp2_with (first
      | (go_at_call 20; refine (wakes3_any _ HR.out).mono ?_; rintro e w1 ⟨rfl, hB⟩))
    go_ret
    exact ⟨rfl, hB⟩
  · have d1 : decide (8 < (ps.length : Int)) = false := by simp; omega
    have Hps := Aside0.mk (show ps.length ≤ 8 by omega)
    have hp := hC.1
    have Hp := Aside0.mk hp
    have hs0 : stk ps 0 = start8 := rfl
    clear hR hC h hc
    go_enter Tryd.func7, Tryd.ntmps7
    go_wp2_with (first
      | (go_at_call 20; refine (wakes3_any _ HR.out).mono ?_; rintro e w1 ⟨rfl, hB1⟩)
      | (go_at_call 28; refine (start_any _).mono ?_; rintro e w2 ⟨rfl, hb2⟩; have hB2 := hB1.trans (hb2.mono hB1.size); clear hb2 hB1)
      | (refine store_arr (xs := start8) rfl 29 3 16 rfl rfl w2.heap.size rfl rfl (Arr.new_at (k := .u32) (xs := List.replicate 8 0) rfl rfl) rfl (by kernel_rfl) ?_; intro w3 hg3 hs3 hS3; have hB3 := (hB2.alloc hB2.size (.cells ((List.replicate 8 0).map (Value.int .u32)).toArray 29)).grown hg3 (by rw [World.size_alloc]; have := hB2.size; omega) (fun j e => by cases e; exact hB2.size); have Hsg := Aside0.mk hB2.size; clear hg3 hs3 hB2))
    obtain ⟨sg, hsg⟩ : ∃ sg, w2.heap.size = sg := ⟨_, rfl⟩
    rw [hsg] at hS3 Hsg
    rw [hsg]
    clear hsg
    rw [← hs0] at hS3
    have Hs0 := Aside0.mk hs0
    clear hs0
    go_loopw [4, 19] (fun va i wr => ∃ k : Nat, k ≤ ps.length ∧ i = .int .i64 k ∧ Arr wr sg .u32 29 (stk ps k) ∧ Kd.R (Kd.int .u8) 5 wr w.heap.size (fun q => q ≠ sg) va (ps.take k).flatten ∧ Below w.heap.size w wr)
      (fun va i _ => ps.length - (intOf i).toNat)
    case atStart => exact ⟨0, by omega, rfl, hS3, Kd.R_nil _ _ _ _ _, hB3⟩
    case round =>
      clear hS3 hB3
      obtain ⟨k, hk, rfl, hS, hV, hB⟩ := hrel
      have hfl := flat_len ps Hp.out k hk
      obtain ⟨al, hal⟩ : ∃ al, (ps.take k).flatten = al := ⟨_, rfl⟩
      rw [hal] at hV hfl
      obtain ⟨Aa, ca, rfl⟩ := Kd.R_slice hV
      have Hal := Aside0.mk hal
      have Hfl := Aside0.mk hfl
      by_cases hlt : k < ps.length
      · obtain ⟨b, o, rfl, hbl, hr⟩ := HC.out.2 (by omega)
        have hrk := rangeAt_below (hr k hlt) hB hbl
        have hql : (ps.getD k []).length = 64 := by
          rw [List.getD_eq_getElem?_getD, List.getElem?_eq_getElem hlt]
          exact Hp.out _ (List.getElem_mem hlt)
        have hst := stk_step ps Hp.out k hlt
        have hsl := stk_len ps Hp.out k hk
        have Hsl2 := Aside0.mk (stk_len ps Hp.out (k + 1) hlt)
        obtain ⟨q, hq0⟩ : ∃ q, ps.getD k [] = q := ⟨_, rfl⟩
        rw [hq0] at hrk hql hst
        obtain ⟨S, hS0⟩ : ∃ S, stk ps k = S := ⟨_, rfl⟩
        rw [hS0] at hS hst hsl
        have Hq := Aside0.mk hq0
        have Hql := Aside0.mk hql
        have Hst := Aside0.mk hst
        have Hsl := Aside0.mk hsl
        have Hlt := Aside0.mk hlt
        have hkl : (k : Int) < ps.length := by omega
        have wk : wrap64 ((k : Int) + 1) = ((k + 1 : Nat) : Int) := by
          have h9 := Hps.out
          rw [w64 (by omega) (by omega)]
          rfl
        clear hr hbl hq0 hql hst hsl hS0 hal hfl hlt hk
        go_wp2_with (first
          | (refine wpList_load_mid rfl 30 (.tmp 21) rfl b (o + k * 64) rfl (q.map (Value.int .u8)) _ hrk Tryd.underlying30 rfl (by rw [List.length_map, Hql.out]; kernel_rfl) ?_)
          | (refine store_arr (xs := q) rfl 30 6 22 rfl rfl wr.heap.size rfl rfl (Arr.new_at (k := .u8) (xs := List.replicate 64 0) rfl rfl) (by rw [Hql.out]; rfl) (by rw [Hql.out]; kernel_rfl) ?_; intro w5 hg5 hs5 hQ5; have hS5 := (hS.alloc (.cells ((List.replicate 64 0).map (Value.int .u8)).toArray 30)).grown hg5 (by have := hS.lt; simp; omega); have hV5 := Kd.R_grown1 (Kd.R_alloc hV (.cells ((List.replicate 64 0).map (Value.int .u8)).toArray 30)) rfl hg5 (fun e => by have := Kd.R_lt hV _ e.symm; omega); have hB5 := (hB.alloc hB.size (.cells ((List.replicate 64 0).map (Value.int .u8)).toArray 30)).grown hg5 (by rw [World.size_alloc]; have := hB.size; omega) (fun j e => by cases e; exact hB.size); have NS := Aside0.mk hS.lt; clear hg5 hs5 hS hV hB)
          | (refine load_arr rfl 29 3 rfl sg rfl hS5 Tryd.underlying29 (by rw [Hsl.out]; kernel_rfl) ?_)
          | (refine load_arr rfl 30 6 rfl wr.heap.size rfl hQ5 Tryd.underlying30 (by rw [Hql.out]; kernel_rfl) ?_)
          | (go_at_call 24; refine (Turn_any S q Hsl.out Hql.out w5 (HR.out.below hB5 hpos.out)).mono ?_; rintro e w6 ⟨rfl, hb6⟩; rw [← Hst.out]; have hS6 := hS5.below hb6 hS5.lt; have hQ6 := hQ5.below hb6 hQ5.lt; have hV6 := Kd.R_below hV5 hb6; have hB6 := hB5.trans (hb6.mono hB5.size); clear hb6 hS5 hQ5 hV5 hB5)
          | (refine store_arr (xs := stk ps (k + 1)) rfl 29 3 25 rfl rfl sg rfl rfl hS6 (by rw [Hsl.out]; exact Hsl2.out.symm) (by rw [Hsl2.out]; kernel_rfl) ?_; intro w7 hg7 hs7 hS7; have hQ7 := hQ6.grown hg7 (by have := NS.out; simp; omega); have hV7 := Kd.R_grown hV6 hg7 (fun j hj e => hj (Option.some.inj e)); have hB7 := hB6.grown hg7 hB6.size (fun j e => by cases e; exact Hsg.out); have hk7 := blk_Cc hQ7 Hql.out; clear hg7 hs7 hS6 hQ6 hV6 hB6)
          | ((with_reducible refine gate_dst (N := 28) rfl ?_); refine Kd.R_append_rows (Kd.int .u8) (w0 := w) w.heap.size rfl (.tmp 26) (.tmp 27) 22 5 (.int .u8 0) 1 rfl Tryd.underlying22 info5d rfl (by decide) (by omega) (.slice Aa al.length ca) al q (some ⟨wr.heap.size, 0, none⟩) 64 64 (fun j => j ≠ sg) (fun _ => False) rfl rfl hV7 hk7 (fun _ _ h => h) (fun _ h => h.elim) (fun j hj => by have := hS7.lt; omega) hB7 hB7.size (by have := Hfl.out; have := Hps.out; have := Hlt.out; omega) ?_; intro v8 w8 hV8 hB8 hg8 hat8; have hS8 := hS7.grown hg8 (fun e => (hV7.1 sg e.symm) rfl)))
        go_roundw
        case rel =>
          refine ⟨k + 1, Hlt.out, by rw [wk], hS8, ?_, hB8⟩
          rw [flat_step ps k Hlt.out, Hq.out, Hal.out]
          exact hV8
        case measure =>
          rw [wk]
          show ps.length - (k + 1) < ps.length - k
          exact Nat.sub_lt_sub_left Hlt.out (Nat.lt_succ_self k)
      · obtain rfl : k = ps.length := by omega
        rw [List.take_of_length_le (Nat.le_refl _)] at hal
        have hPl := pl_64 al.length (by omega)
        have hsl := stk_len ps Hp.out ps.length (Nat.le_refl _)
        have hsum := stk_last ps Hp.out
        rw [hal] at hsum
        obtain ⟨P, hP⟩ : ∃ P, pl al.length = P := ⟨_, rfl⟩
        rw [hP] at hPl hsum
        obtain ⟨S, hS0⟩ : ∃ S, stk ps ps.length = S := ⟨_, rfl⟩
        rw [hS0] at hS hsl hsum
        obtain ⟨F, hF⟩ : ∃ F, tr S P = F := ⟨_, rfl⟩
        have hFl : F.length = 8 := by rw [← hF]; exact tr_len _ _ hsl
        rw [hF] at hsum
        obtain ⟨ys, hys⟩ : ∃ ys, sumL al = ys := ⟨_, rfl⟩
        have hyl : ys.length = 32 := by rw [← hys]; exact sumL_len _
        have Hn := Aside0.mk (show al.length < 1152921504606846976 by have := Hps.out; omega)
        have e1 : IntKind.u64.wrap (al.length : Int) = al.length := wu64 (by omega) (by have := Hps.out; omega)
        have HP := Aside0.mk hP
        have HPl := Aside0.mk hPl
        have HPl2 := Aside0.mk (show (pl al.length).length = 64 by rw [hP, hPl])
        have Hsl := Aside0.mk hsl
        have HF := Aside0.mk hF
        have HFl := Aside0.mk hFl
        have Hyl := Aside0.mk hyl
        have Hys := Aside0.mk (show sumL ([al] : List (List Int)).flatten = ys by rw [List.flatten_singleton, hys])
        have Hyo := Aside0.mk (show ys = outs F by rw [← hys, hsum])
        have Hfs := Aside0.mk (show ([al] : List (List Int)).flatten.length < 1152921504606846976 by rw [List.flatten_singleton]; have := Hps.out; omega)
        have Hca := Aside0.mk (Kd.R_reads' hV).2.1
        clear hP hPl hS0 hsl hsum hF hFl hys hyl hal hfl hk hlt
        go_wp2_with (first
          | (go_at_call 25; refine (Pad_any al.length 64 Hn.out HPl2.out _).mono ?_; rintro e w5 ⟨p, c, rfl, hC5, hb5⟩; rw [HP.out] at hC5; have hS5 := hS.below hb5 hS.lt; have hV5 := Kd.R_below hV hb5; have hB5 := hB.trans (hb5.mono hB.size); clear hb5 hS hV hB; have HS6 := Aside0.mk (hS5.alloc (.cells ((List.replicate 64 0).map (Value.int .u8)).toArray 30)); have HV6 := Aside0.mk (Kd.R_alloc hV5 (.cells ((List.replicate 64 0).map (Value.int .u8)).toArray 30)); have HB6 := Aside0.mk (hB5.alloc hB5.size (.cells ((List.replicate 64 0).map (Value.int .u8)).toArray 30)); have HC6 := Aside0.mk (Kd.C_below hC5 ((Below.refl _ w5).alloc (Nat.le_refl _) (.cells ((List.replicate 64 0).map (Value.int .u8)).toArray 30))); have NS := Aside0.mk hS5.lt; have NB := Aside0.mk hB5.size; have NV := Aside0.mk (Kd.R_lt hV5); clear hS5 hV5 hB5 hC5)
          | (refine copy_arrc rfl (.tmp 37) (.tmp 38) rfl w5.heap.size 64 64 c p (List.replicate 64 0) P rfl rfl HPl.out (Arr.new_at (k := .u8) (xs := List.replicate 64 0) rfl rfl) rfl (by rw [HPl.out]; decide) (by rw [HPl.out]; have h := HC6.out; rw [HPl.out] at h; exact h) ?_; intro w7 hg7 hs7 hL7; rw [copy_all P HPl.out] at hL7; have hS7 := HS6.out.grown hg7 (by have := NS.out; simp; omega); have hV7 := Kd.R_grown1 HV6.out rfl hg7 (fun e => by have := NV.out _ e.symm; omega); have hB7 := HB6.out.grown hg7 HB6.out.size (fun j e => by cases e; exact NB.out); clear hg7 hs7)
          | (refine load_arr rfl 29 3 rfl sg rfl hS7 Tryd.underlying29 (by rw [Hsl.out]; kernel_rfl) ?_)
          | (refine load_arr rfl 30 8 rfl w5.heap.size rfl hL7 Tryd.underlying30 (by rw [HPl.out]; kernel_rfl) ?_)
          | (go_at_call 24; refine (Turn_any S P Hsl.out HPl.out w7 (HR.out.below hB7 hpos.out)).mono ?_; rintro e w8 ⟨rfl, hb8⟩; rw [HF.out]; have hS8 := hS7.below hb8 hS7.lt; have hV8 := Kd.R_below hV7 hb8; have hB8 := hB7.trans (hb8.mono hB7.size); clear hb8 hS7 hV7 hB7 hL7)
          | (refine store_arr (xs := F) rfl 29 3 42 rfl rfl sg rfl rfl hS8 (by rw [Hsl.out]; exact HFl.out.symm) (by rw [HFl.out]; kernel_rfl) ?_; intro w9 hg9 hs9 hS9; have hV9 := Kd.R_grown hV8 hg9 (fun j hj e => hj (Option.some.inj e)); have hB9 := hB8.grown hg9 hB8.size (fun j e => by cases e; exact Hsg.out); have hrow := arg1_C w9 Aa ca al Hca.out (Kd.R_reads' hV9).2.2; have hS10 := hS9.alloc (.cells #[.slice Aa al.length ca] 22); have hB10 := hB9.alloc hB9.size (.cells #[.slice Aa al.length ca] 22); clear hg9 hs9 hS8 hV8 hB8)
          | (go_at_call 21; refine (SSum_any (some ⟨w9.heap.size, 0, none⟩) 1 [al] _ (HR.out.below hB10 hpos.out) hrow Hfs.out).mono ?_; rintro e w11 ⟨rfl, hb11⟩; rw [Hys.out]; have hS11 := hS10.below hb11 hS10.lt; have hB11 := hB10.trans (hb11.mono hB10.size); clear hb11 hS10 hB10)
          | (refine store_arr (xs := ys) rfl 24 9 45 rfl rfl w11.heap.size rfl rfl (Arr.new_at (k := .u8) (xs := List.replicate 32 0) rfl rfl) (by rw [Hyl.out]; rfl) (by rw [Hyl.out]; kernel_rfl) ?_; intro w12 hg12 hs12 hY12; have hS12 := (hS11.alloc (.cells ((List.replicate 32 0).map (Value.int .u8)).toArray 24)).grown hg12 (by have := hS11.lt; simp; omega); have hB12 := (hB11.alloc hB11.size (.cells ((List.replicate 32 0).map (Value.int .u8)).toArray 24)).grown hg12 (by rw [World.size_alloc]; have := hB11.size; omega) (fun j e => by cases e; exact hB11.size); clear hg12 hs12 hS11 hB11))
        have NYs := Aside0.mk Hyl.out
        go_loopw [46] (fun v ww => ∃ k : Nat, k ≤ 32 ∧ v = .int .i64 k ∧ Arr ww w11.heap.size .u8 24 ys ∧ Arr ww sg .u32 29 F ∧ Below w.heap.size w ww)
          (fun v _ => 32 - (intOf v).toNat)
        case atStart => exact ⟨0, by omega, rfl, hY12, hS12, hB12⟩
        case round =>
        clear hY12 hS12 hB12
        obtain ⟨k, hk, rfl, hY, hS, hB⟩ := hrel
        by_cases hlt : k < 32
        · have d0 : decide ((k : Int) < 32) = true := decide_eq_true (by omega)
          have d1 : (k : Int) < 32 := by omega
          have dq : (k : Int) / 4 < 8 := by omega
          obtain ⟨x, hx⟩ : ∃ x, F.getD (k / 4) 0 = x := ⟨_, rfl⟩
          have c0 := hS.cell (i := k / 4) (by rw [HFl.out]; omega)
          rw [hx] at c0
          have c1 := hY.cell (i := k) (by rw [Hyl.out]; exact hlt)
          have Hx := Aside0.mk hx
          clear hx
          have dq0 : (0 : Int) ≤ (k : Int) / 4 := by omega
          have m1 : IntKind.i64.wrap ((k : Int) / 4) = (k : Int) / 4 := IntWalk.i64_in _ (by omega)
          have m3 : ((k : Int) / 4).toNat = k / 4 := by omega
          have hr : (k : Int) % 4 = 0 ∨ (k : Int) % 4 = 1 ∨ (k : Int) % 4 = 2 ∨ (k : Int) % 4 = 3 := by omega
          rcases hr with hr | hr | hr | hr
          · have hy : ys.getD k 0 = x / 16777216 % 256 := by rw [Hyo.out, outs_k F HFl.out k hlt, Hx.out, show k % 4 = 0 by omega]; first | rfl | (simp; done)
            rw [hy] at c1
            have f1 : IntKind.i64.wrap (8 * (k : Int).tmod 4) = 0 := by rw [Int.tmod_eq_emod_of_nonneg (by omega), hr]; decide
            have f2 : IntKind.i64.wrap 24 = 24 := by decide
            have f3 : IntKind.u64.wrap 24 = 24 := by decide
            have f4 : IntKind.u8.wrap (x / 16777216) = x / 16777216 % 256 := rfl
            clear hy hk
            have Hlt := Aside0.mk hlt
            clear hlt
            go_wp2
            go_still (by kernel_rfl)
            change Exit.then _ _ Exit.normal _ wr.drew
            have hY2 : Arr wr.drew w11.heap.size .u8 24 ys := hY
            have hS2 : Arr wr.drew sg .u32 29 F := hS
            have hB2 : Below w.heap.size w wr.drew := pw_below_drewN hB 1
            clear hY hS hB c0 c1
            generalize wr.drew = w14 at *
            go_wp2
            go_roundw
            case rel => exact ⟨k + 1, Hlt.out, by first | rfl | (rw [w64 (by omega) (by omega)]; rfl), hY2, hS2, hB2⟩
            case measure =>
              first
                | (show 32 - (k + 1) < 32 - k; exact Nat.sub_lt_sub_left Hlt.out (Nat.lt_succ_self k))
                | (rw [w64 (by omega) (by omega)]; show 32 - (k + 1) < 32 - k; exact Nat.sub_lt_sub_left Hlt.out (Nat.lt_succ_self k))
          · have hy : ys.getD k 0 = x / 65536 % 256 := by rw [Hyo.out, outs_k F HFl.out k hlt, Hx.out, show k % 4 = 1 by omega]; first | rfl | (simp; done)
            rw [hy] at c1
            have f1 : IntKind.i64.wrap (8 * (k : Int).tmod 4) = 8 := by rw [Int.tmod_eq_emod_of_nonneg (by omega), hr]; decide
            have f2 : IntKind.i64.wrap 16 = 16 := by decide
            have f3 : IntKind.u64.wrap 16 = 16 := by decide
            have f4 : IntKind.u8.wrap (x / 65536) = x / 65536 % 256 := rfl
            clear hy hk
            have Hlt := Aside0.mk hlt
            clear hlt
            go_wp2
            go_still (by kernel_rfl)
            change Exit.then _ _ Exit.normal _ wr.drew
            have hY2 : Arr wr.drew w11.heap.size .u8 24 ys := hY
            have hS2 : Arr wr.drew sg .u32 29 F := hS
            have hB2 : Below w.heap.size w wr.drew := pw_below_drewN hB 1
            clear hY hS hB c0 c1
            generalize wr.drew = w14 at *
            go_wp2
            go_roundw
            case rel => exact ⟨k + 1, Hlt.out, by first | rfl | (rw [w64 (by omega) (by omega)]; rfl), hY2, hS2, hB2⟩
            case measure =>
              first
                | (show 32 - (k + 1) < 32 - k; exact Nat.sub_lt_sub_left Hlt.out (Nat.lt_succ_self k))
                | (rw [w64 (by omega) (by omega)]; show 32 - (k + 1) < 32 - k; exact Nat.sub_lt_sub_left Hlt.out (Nat.lt_succ_self k))
          · have hy : ys.getD k 0 = x / 256 % 256 := by rw [Hyo.out, outs_k F HFl.out k hlt, Hx.out, show k % 4 = 2 by omega]; first | rfl | (simp; done)
            rw [hy] at c1
            have f1 : IntKind.i64.wrap (8 * (k : Int).tmod 4) = 16 := by rw [Int.tmod_eq_emod_of_nonneg (by omega), hr]; decide
            have f2 : IntKind.i64.wrap 8 = 8 := by decide
            have f3 : IntKind.u64.wrap 8 = 8 := by decide
            have f4 : IntKind.u8.wrap (x / 256) = x / 256 % 256 := rfl
            clear hy hk
            have Hlt := Aside0.mk hlt
            clear hlt
            go_wp2
            go_still (by kernel_rfl)
            change Exit.then _ _ Exit.normal _ wr.drew
            have hY2 : Arr wr.drew w11.heap.size .u8 24 ys := hY
            have hS2 : Arr wr.drew sg .u32 29 F := hS
            have hB2 : Below w.heap.size w wr.drew := pw_below_drewN hB 1
            clear hY hS hB c0 c1
            generalize wr.drew = w14 at *
            go_wp2
            go_roundw
            case rel => exact ⟨k + 1, Hlt.out, by first | rfl | (rw [w64 (by omega) (by omega)]; rfl), hY2, hS2, hB2⟩
            case measure =>
              first
                | (show 32 - (k + 1) < 32 - k; exact Nat.sub_lt_sub_left Hlt.out (Nat.lt_succ_self k))
                | (rw [w64 (by omega) (by omega)]; show 32 - (k + 1) < 32 - k; exact Nat.sub_lt_sub_left Hlt.out (Nat.lt_succ_self k))
          · have hy : ys.getD k 0 = x % 256 := by rw [Hyo.out, outs_k F HFl.out k hlt, Hx.out, show k % 4 = 3 by omega]; first | rfl | (simp; done)
            rw [hy] at c1
            have f1 : IntKind.i64.wrap (8 * (k : Int).tmod 4) = 24 := by rw [Int.tmod_eq_emod_of_nonneg (by omega), hr]; decide
            have f2 : IntKind.i64.wrap 0 = 0 := by decide
            have f3 : IntKind.u64.wrap 0 = 0 := by decide
            have f4 : IntKind.u8.wrap (x) = x % 256 := rfl
            clear hy hk
            have Hlt := Aside0.mk hlt
            clear hlt
            go_wp2
            go_still (by kernel_rfl)
            change Exit.then _ _ Exit.normal _ wr.drew
            have hY2 : Arr wr.drew w11.heap.size .u8 24 ys := hY
            have hS2 : Arr wr.drew sg .u32 29 F := hS
            have hB2 : Below w.heap.size w wr.drew := pw_below_drewN hB 1
            clear hY hS hB c0 c1
            generalize wr.drew = w14 at *
            go_wp2
            go_roundw
            case rel => exact ⟨k + 1, Hlt.out, by first | rfl | (rw [w64 (by omega) (by omega)]; rfl), hY2, hS2, hB2⟩
            case measure =>
              first
                | (show 32 - (k + 1) < 32 - k; exact Nat.sub_lt_sub_left Hlt.out (Nat.lt_succ_self k))
                | (rw [w64 (by omega) (by omega)]; show 32 - (k + 1) < 32 - k; exact Nat.sub_lt_sub_left Hlt.out (Nat.lt_succ_self k))
        · obtain rfl : k = 32 := by omega
          have d0 : decide ((32 : Int) < 32) = false := by simp
          clear hk hlt
          go_wp2
          go_ret
          exact ⟨rfl, hB⟩
end Go.Proofs.YtalghfnjelcpnaaDoor
