/- The document's padding, and the digest by whole blocks: plain laws. No conditions. -/
import Derived.Test.YtalghfnjelcpnaaDoorShaW
namespace Go.Proofs.YtalghfnjelcpnaaDoor
set_option linter.unusedVariables false
open Go.RowKit Go.Proofs.YtalghfnjelcpnaaDoor.Db Go.Proofs.YtalghfnjelcpnaaDoorW.PrintWords Go.Proofs.YtalghfnjelcpnaaDoorW.PrintLast Go.Proofs.YtalghfnjelcpnaaDoorW.PrintMore
theorem step1 (k : Nat) (x : List Int) (s : Int) (hx : x.length < 1000) (a b : Nat) (ha : a ≤ 56) (p : Int) (hp : s / 2 ^ a = p) (hb : (a : Int) - 8 = b ∨ ((a : Int) - 8 = -8 ∧ b = 0)) :
    incognitoref03_Pad.l1 (k + 1) x s (a : Int) = incognitoref03_Pad.l1 k (x ++ [p % 256]) s ((a : Int) - 8) := by
  simp only [incognitoref03_Pad.l1]
  have e : shr .u64 s ((a : Nat) : Int) = p := by
    unfold shr
    rw [Int.toNat_natCast, show min a IntKind.u64.bits = a from Nat.min_eq_left (by show a ≤ 64; omega)]
    exact hp
  rw [if_pos (by omega), wu64 (by omega) (by omega), if_pos (by omega), if_pos (by omega), e, w64 (by omega) (by omega)]
theorem l1_ev (k : Nat) (x : List Int) (s : Int) (hx : x.length < 900) : incognitoref03_Pad.l1 (k + 9) x s 56 = some (x ++ bigL s 8) := by
  have h1 := step1 (k + 8) x s (by omega) 56 48 (by omega) (s / 256 ^ 7) rfl (by omega)
  have h2 := step1 (k + 7) (x ++ [s / 256 ^ 7 % 256]) s (by simp; omega) 48 40 (by omega) (s / 256 ^ 6) rfl (by omega)
  have h3 := step1 (k + 6) (x ++ [s / 256 ^ 7 % 256] ++ [s / 256 ^ 6 % 256]) s (by simp; omega) 40 32 (by omega) (s / 256 ^ 5) rfl (by omega)
  have h4 := step1 (k + 5) (x ++ [s / 256 ^ 7 % 256] ++ [s / 256 ^ 6 % 256] ++ [s / 256 ^ 5 % 256]) s (by simp; omega) 32 24 (by omega) (s / 256 ^ 4) rfl (by omega)
  have h5 := step1 (k + 4) (x ++ [s / 256 ^ 7 % 256] ++ [s / 256 ^ 6 % 256] ++ [s / 256 ^ 5 % 256] ++ [s / 256 ^ 4 % 256]) s (by simp; omega) 24 16 (by omega) (s / 256 ^ 3) rfl (by omega)
  have h6 := step1 (k + 3) (x ++ [s / 256 ^ 7 % 256] ++ [s / 256 ^ 6 % 256] ++ [s / 256 ^ 5 % 256] ++ [s / 256 ^ 4 % 256] ++ [s / 256 ^ 3 % 256]) s (by simp; omega) 16 8 (by omega) (s / 256 ^ 2) rfl (by omega)
  have h7 := step1 (k + 2) (x ++ [s / 256 ^ 7 % 256] ++ [s / 256 ^ 6 % 256] ++ [s / 256 ^ 5 % 256] ++ [s / 256 ^ 4 % 256] ++ [s / 256 ^ 3 % 256] ++ [s / 256 ^ 2 % 256]) s (by simp; omega) 8 0 (by omega) (s / 256 ^ 1) rfl (by omega)
  have h8 := step1 (k + 1) (x ++ [s / 256 ^ 7 % 256] ++ [s / 256 ^ 6 % 256] ++ [s / 256 ^ 5 % 256] ++ [s / 256 ^ 4 % 256] ++ [s / 256 ^ 3 % 256] ++ [s / 256 ^ 2 % 256] ++ [s / 256 ^ 1 % 256]) s (by simp; omega) 0 0 (by omega) (s / 256 ^ 0) rfl (by omega)
  refine h1.trans (h2.trans (h3.trans (h4.trans (h5.trans (h6.trans (h7.trans (h8.trans ?_)))))))
  simp only [incognitoref03_Pad.l1]
  rw [if_neg (by omega)]
  simp only [bigL, List.append_assoc, List.cons_append, List.nil_append]
theorem l0_ev (n : Int) (h0 : 0 ≤ n) (h1 : n < 18446744073709551616) (m : Nat) (hm : n % 64 = m) (d : Nat) : ∀ (k j : Nat), j ≤ (119 - m) % 64 → (119 - m) % 64 - j = d → d + 9 < k →
    incognitoref03_Pad.l0 k n (128 :: List.replicate j 0) = some ((128 :: List.replicate ((119 - m) % 64) 0) ++ bigL (IntKind.u64.wrap (8 * n)) 8) := by
  have hw : ∀ x : Int, IntKind.u64.wrap x = x % 18446744073709551616 := fun x => rfl
  induction d with
  | zero =>
    intro k j hj hd hk
    obtain ⟨k, rfl⟩ : ∃ q, k = q + 9 + 1 := ⟨k - 10, by omega⟩
    obtain rfl : j = (119 - m) % 64 := by omega
    simp only [incognitoref03_Pad.l0, List.length_cons, List.length_replicate]
    rw [if_pos (by rw [hw, hw, hw, Int.tmod_eq_emod_of_nonneg (by omega)]; omega), l1_ev k _ _ (by simp; omega)]
  | succ d ih =>
    intro k j hj hd hk
    obtain ⟨k, rfl⟩ : ∃ q, k = q + 1 := ⟨k - 1, by omega⟩
    simp only [incognitoref03_Pad.l0, List.length_cons, List.length_replicate]
    rw [if_neg (by rw [hw, hw, hw, Int.tmod_eq_emod_of_nonneg (by omega)]; omega), if_pos (by omega)]
    have e : (128 :: List.replicate j (0 : Int)) ++ [0] = 128 :: List.replicate (j + 1) 0 := by rw [List.cons_append, ← List.replicate_succ']
    rw [e]
    exact ih k (j + 1) (by omega) (by omega) (by omega)

theorem refpad_ev (n : Nat) (hn : n < 1152921504606846976) (k : Nat) (hk : 100 < k) : Db.incognitoref03_Pad.f k (n : Int) = some (pl n) := by
  obtain ⟨m, hm⟩ : ∃ m, n % 64 = m := ⟨_, rfl⟩
  have h := l0_ev (n : Int) (by omega) (by omega) m (by omega) _ k 0 (by omega) rfl (by omega)
  unfold incognitoref03_Pad.f
  have e : IntKind.u64.wrap (8 * (n : Int)) = ((8 * n : Nat) : Int) := by rw [wu64 (by omega) (by omega)]; omega
  rw [e] at h
  have e2 : pl n = (128 :: List.replicate ((119 - m) % 64) 0) ++ bigL ((8 * n : Nat) : Int) 8 := by
    unfold pl
    rw [hm, show 1 + (119 - m) % 64 = (119 - m) % 64 + 1 by omega, List.replicate_succ]
    rfl
  rw [e2]
  exact h
/-- Fewer than a block's bytes more. -/
theorem Dg.all_few (D : Dg) (c : List Int) (hD : D.n % 64 = 0) (hb : D.bs.length = 64) (hc : c.length = 64) : ∀ i, i < 64 → D.all (c.take i) = ⟨D.st, c.take i ++ D.bs.drop i, D.n + i⟩ := by
  intro i
  induction i with
  | zero => intro _; rfl
  | succ i ih =>
    intro hi
    rw [Dg.all_step D c i (by omega), ih (by omega)]
    unfold Dg.one
    rw [if_neg (by show ¬ (D.n + i + 1) % 64 = 0; omega)]
    have e1 : (D.n + i) % 64 = i := by omega
    show (⟨D.st, (c.take i ++ D.bs.drop i).set ((D.n + i) % 64) (c.getD i 0), D.n + i + 1⟩ : Dg) = _
    rw [e1, List.set_append_right _ _ (by rw [List.length_take]; omega)]
    have e2 : i - (c.take i).length = 0 := by rw [List.length_take]; omega
    have hi' : i < D.bs.length := by omega
    have hic : i < c.length := by omega
    rw [e2, List.drop_eq_getElem_cons hi', List.set_cons_zero, List.take_succ_eq_append_getElem hic, List.append_assoc]
    simp only [List.getD_eq_getElem?_getD, List.getElem?_eq_getElem hic, Option.getD_some, List.cons_append, List.nil_append]
    rfl
/-- A block's bytes more. -/
theorem Dg.all_chunk (D : Dg) (c : List Int) (hD : D.n % 64 = 0) (hb : D.bs.length = 64) (hc : c.length = 64) : D.all c = ⟨tr D.st c, c, D.n + 64⟩ := by
  have h := Dg.all_step D c 63 (by omega)
  rw [List.take_of_length_le (by omega), Dg.all_few D c hD hb hc 63 (by omega)] at h
  rw [h]
  have hic : 63 < c.length := by omega
  have e1 : (c.take 63 ++ D.bs.drop 63).set 63 (c.getD 63 0) = c := by
    have hi' : 63 < D.bs.length := by omega
    rw [List.set_append_right _ _ (by rw [List.length_take]; omega)]
    have e2 : 63 - (c.take 63).length = 0 := by rw [List.length_take]; omega
    rw [e2, List.drop_eq_getElem_cons hi', List.set_cons_zero, List.drop_eq_nil_of_le (by omega)]
    have e3 := List.take_succ_eq_append_getElem hic
    rw [List.take_of_length_le (by omega)] at e3
    rw [List.getD_eq_getElem?_getD, List.getElem?_eq_getElem hic]
    exact e3.symm
  unfold Dg.one
  rw [if_pos (by show (D.n + 63 + 1) % 64 = 0; omega)]
  show (⟨tr D.st ((c.take 63 ++ D.bs.drop 63).set ((D.n + 63) % 64) (c.getD 63 0)), (c.take 63 ++ D.bs.drop 63).set ((D.n + 63) % 64) (c.getD 63 0), D.n + 63 + 1⟩ : Dg) = _
  rw [show (D.n + 63) % 64 = 63 by omega, e1]
/-- The words behind the first i blocks. -/
def chn (M : List Int) : Nat → Dg
  | 0 => d0
  | i + 1 => (chn M i).all ((M.drop (64 * i)).take 64)
theorem chn_all (M : List Int) : ∀ i, 64 * i ≤ M.length → d0.all (M.take (64 * i)) = chn M i ∧ (chn M i).n = 64 * i ∧ (chn M i).bs.length = 64 ∧ (chn M i).st.length = 8 := by
  intro i
  induction i with
  | zero => intro _; exact ⟨rfl, rfl, rfl, rfl⟩
  | succ i ih =>
    intro h
    obtain ⟨h1, h2, h3, h4⟩ := ih (by omega)
    have hc : ((M.drop (64 * i)).take 64).length = 64 := by rw [List.length_take, List.length_drop]; omega
    have e : M.take (64 * (i + 1)) = M.take (64 * i) ++ (M.drop (64 * i)).take 64 := by rw [show 64 * (i + 1) = 64 * i + 64 by omega, List.take_add]
    have hk := Dg.all_chunk (chn M i) _ (by omega) h3 hc
    refine ⟨by rw [e, Dg.all_app, h1]; rfl, ?_, ?_, ?_⟩
    · rw [chn, hk]; show (chn M i).n + 64 = _; omega
    · rw [chn, hk]; exact hc
    · rw [chn, hk]; exact tr_len _ _ h4
theorem chn_st (M : List Int) (i : Nat) (h : 64 * (i + 1) ≤ M.length) : (chn M (i + 1)).st = tr (chn M i).st ((M.drop (64 * i)).take 64) := by
  obtain ⟨h1, h2, h3, h4⟩ := chn_all M i (by omega)
  rw [chn, Dg.all_chunk (chn M i) _ (by omega) h3 (by rw [List.length_take, List.length_drop]; omega)]
theorem start8_w : W32s start8 := by unfold W32s W32; decide
theorem chn_w (M : List Int) : ∀ i, 64 * i ≤ M.length → W32s (chn M i).st := by
  intro i
  induction i with
  | zero => intro _; exact start8_w
  | succ i ih =>
    intro h
    rw [chn_st M i h]
    exact tr_w _ _ (ih (by omega)) (chn_all M i (by omega)).2.2.2
/-- The digest by whole blocks. -/
theorem sum_chn (b : List Int) (t : Nat) (ht : (b ++ pl b.length).length = 64 * t) : sumL b = outs (chn (b ++ pl b.length) t).st := by
  have h := (chn_all (b ++ pl b.length) t (by omega)).1
  rw [← ht, List.take_of_length_le (Nat.le_refl _), Dg.all_app] at h
  unfold sumL dig
  rw [Dg.all_n, show d0.n + b.length = b.length from Nat.zero_add _, h]
theorem pad_whole (n : Nat) : ∃ t, n + (pl n).length = 64 * t := ⟨(n + (pl n).length) / 64, by rw [pl_len]; omega⟩
end Go.Proofs.YtalghfnjelcpnaaDoor
