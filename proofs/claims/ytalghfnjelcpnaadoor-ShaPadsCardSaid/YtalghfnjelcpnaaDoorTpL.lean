/- The plain laws of the padding: what the printed functions come to; no program, no memory. -/
import Derived.Test.YtalghfnjelcpnaaDoorTp3
namespace Go.Proofs.YtalghfnjelcpnaaDoor.TpL
set_option linter.unusedVariables false
open Go.RowKit Go.Proofs.YtalghfnjelcpnaaDoor Go.Proofs.YtalghfnjelcpnaaDoor.Tp Go.Proofs.YtalghfnjelcpnaaDoorW.PrintWords Go.Proofs.YtalghfnjelcpnaaDoorW.PrintLast Go.Proofs.YtalghfnjelcpnaaDoorW.PrintMore

theorem w64 {x : Int} (h0 : -9223372036854775808 ≤ x) (h1 : x ≤ 9223372036854775807) : wrap64 x = x := by unfold wrap64; omega
theorem wu64 {x : Int} (h0 : 0 ≤ x) (h1 : x < 18446744073709551616) : IntKind.u64.wrap x = x := IntWalk.u64_in _ (by omega)

/-- Bytes. -/
def Bytes (l : List Int) : Prop := ∀ x ∈ l, 0 ≤ x ∧ x ≤ 255
theorem bytes_of_wf {l : List Int} (h : ∀ x ∈ l, (Lit.int .u8 x).wf = true) : Bytes l := by
  intro x hx
  have := bounds_u8 (h x hx)
  omega
theorem bytes_rd {l : List Int} (h : Bytes l) (i : Int) : 0 ≤ Go.Proofs.YtalghfnjelcpnaaDoorW.PrintWords.rd l i ∧ Go.Proofs.YtalghfnjelcpnaaDoorW.PrintWords.rd l i ≤ 255 := by
  unfold Go.Proofs.YtalghfnjelcpnaaDoorW.PrintWords.rd
  rcases Nat.lt_or_ge i.toNat l.length with hi | hi
  · rw [List.getD_eq_getElem?_getD, List.getElem?_eq_getElem hi]
    exact h _ (List.getElem_mem hi)
  · rw [List.getD_eq_getElem?_getD, List.getElem?_eq_none hi]
    exact ⟨by decide, by decide⟩

/-! ### Same -/
theorem same_go (a b : List Int) (hl : a.length = b.length) (hm : (a.length : Int) ≤ 9223372036854775800) (d : Nat) : ∀ (k i : Nat), i ≤ a.length → a.length - i = d → d < k →
    incognitoref01_Same.l0 k a b (i : Int) = some (decide (a.drop i = b.drop i)) := by
  induction d with
  | zero =>
    intro k i h0 h1 hk
    obtain ⟨k, rfl⟩ : ∃ m, k = m + 1 := ⟨k - 1, by omega⟩
    simp only [incognitoref01_Same.l0]
    rw [if_neg (by omega), List.drop_eq_nil_of_le (by omega), List.drop_eq_nil_of_le (by omega)]
    simp
  | succ d ih =>
    intro k i h0 h1 hk
    obtain ⟨k, rfl⟩ : ∃ m, k = m + 1 := ⟨k - 1, by omega⟩
    simp only [incognitoref01_Same.l0]
    have hi : i < a.length := by omega
    have hi' : i < b.length := by omega
    rw [if_pos (by omega), if_pos (by omega), if_pos (by omega)]
    have ea : Go.Proofs.YtalghfnjelcpnaaDoorW.PrintWords.rd a (i : Int) = a[i] := by unfold Go.Proofs.YtalghfnjelcpnaaDoorW.PrintWords.rd; simp [List.getD_eq_getElem?_getD, hi]
    have eb : Go.Proofs.YtalghfnjelcpnaaDoorW.PrintWords.rd b (i : Int) = b[i] := by unfold Go.Proofs.YtalghfnjelcpnaaDoorW.PrintWords.rd; simp [List.getD_eq_getElem?_getD, hi']
    rw [ea, eb, List.drop_eq_getElem_cons hi, List.drop_eq_getElem_cons hi']
    by_cases e : a[i] = b[i]
    · rw [if_pos e, w64 (by omega) (by omega), show (i : Int) + 1 = ((i + 1 : Nat) : Int) by omega, ih k (i + 1) (by omega) (by omega) (by omega), e]
      simp only [List.cons.injEq, true_and]
    · rw [if_neg e]
      simp only [List.cons.injEq, e, false_and, decide_false]
theorem same_ev (a b : List Int) (hm : (a.length : Int) ≤ 9223372036854775800) : ∀ k, a.length < k → incognitoref01_Same.f k a b = some (decide (a = b)) := by
  intro k hk
  unfold incognitoref01_Same.f
  by_cases e : a.length = b.length
  · rw [if_pos (by omega)]
    have := same_go a b e hm a.length k 0 (by omega) (by omega) hk
    simpa using this
  · rw [if_neg (by omega)]
    have : a ≠ b := fun h => e (by rw [h])
    simp [this]

/-! ### Big -/
def bigL (n : Int) : Nat → List Int
  | 0 => []
  | t + 1 => (n / 256 ^ t) % 256 :: bigL n t
theorem bigL_length (n : Int) (t : Nat) : (bigL n t).length = t := by induction t with
  | zero => rfl
  | succ t ih => simp [bigL, ih]
theorem set_rep (m : Nat) (v : Int) (r : List Int) : (List.replicate (m + 1) 0 ++ r).set m v = List.replicate m 0 ++ v :: r := by
  rw [List.replicate_succ', List.append_assoc, List.set_append_right _ _ (by simp)]
  simp
theorem div_pow_succ (n : Int) (t : Nat) : n / 256 ^ t / 256 = n / 256 ^ (t + 1) := by
  rw [Int.ediv_ediv_of_nonneg (Int.pow_nonneg (by decide)), ← Int.pow_succ]
theorem big_go (n : Int) (m : Nat) (hm : m ≤ 8) (d : Nat) : ∀ (k t : Nat), t ≤ m → m - t = d → d < k →
    hex_Big.l0 k (n / 256 ^ t) (List.replicate (m - t) 0 ++ bigL n t) ((m : Int) - t - 1) = some (bigL n m) := by
  induction d with
  | zero =>
    intro k t h0 h1 hk
    obtain ⟨k, rfl⟩ : ∃ m, k = m + 1 := ⟨k - 1, by omega⟩
    obtain rfl : t = m := by omega
    simp only [hex_Big.l0]
    rw [if_neg (by omega)]
    simp
  | succ d ih =>
    intro k t h0 h1 hk
    obtain ⟨k, rfl⟩ : ∃ m, k = m + 1 := ⟨k - 1, by omega⟩
    simp only [hex_Big.l0]
    rw [if_pos (by omega), if_pos (by omega), if_pos (by simp only [List.length_append, List.length_replicate, bigL_length]; omega), w64 (by omega) (by omega), div_pow_succ,
      show ((m : Int) - t - 1).toNat = m - (t + 1) by omega, show m - t = m - (t + 1) + 1 by omega, set_rep]
    have := ih k (t + 1) (by omega) (by omega) (by omega)
    rw [show (m : Int) - t - 1 - 1 = (m : Int) - ((t + 1 : Nat) : Int) - 1 by omega]
    exact this
theorem big_ev (n : Int) (s : Int) (h0 : -9223372036854775808 ≤ s) : ∀ k, 9 < k → hex_Big.f k n s = some (bigL n (min s.toNat 8)) := by
  intro k hk
  unfold hex_Big.f
  by_cases c : s < 1
  · rw [if_pos c, show s.toNat = 0 by omega]; rfl
  · rw [if_neg c]
    have e : mn s 8 = ((min s.toNat 8 : Nat) : Int) := by unfold mn; split <;> omega
    rw [e, if_pos (by omega), if_pos (by omega)]
    simp only [Option.bind_some, Int.toNat_natCast, List.length_replicate]
    rw [w64 (by omega) (by omega)]
    have := big_go n (min s.toNat 8) (by omega) (min s.toNat 8) k 0 (by omega) (by omega) (by omega)
    simpa [bigL] using this
theorem obind {α β : Type} (a : α) (f : α → Option β) : (some a).bind f = f a := by
  cases h : f a <;> simp [h]
theorem step1 (k : Nat) (x : List Int) (s : Int) (hx : x.length < 1000) (a b : Nat) (ha : a ≤ 56) (p : Int) (hp : s / 2 ^ a = p) (hb : (a : Int) - 8 = b ∨ ((a : Int) - 8 = -8 ∧ b = 0)) :
    incognitoref03_Pad.l1 (k + 1) x s (a : Int) = incognitoref03_Pad.l1 k (x ++ [p % 256]) s ((a : Int) - 8) := by
  simp only [incognitoref03_Pad.l1]
  have e : shr .u64 s ((a : Nat) : Int) = p := by
    unfold shr
    rw [Int.toNat_natCast, show min a IntKind.u64.bits = a from Nat.min_eq_left (by show a ≤ 64; omega)]
    exact hp
  rw [if_pos (by omega), wu64 (by omega) (by omega), if_pos (by omega), if_pos (by omega), e, w64 (by omega) (by omega)]
theorem l1_ev (k : Nat) (x : List Int) (s : Int) (hx : x.length < 900) : incognitoref03_Pad.l1 (k + 9) x s 56 = some (x ++ bigL s 8) := by
  have h1 := step1 (k + 8) x s (by omega) 56 48 (by omega) (s / 256 ^ 7) rfl (by omega)
  have h2 := step1 (k + 7) (x ++ [s / 256 ^ 7 % 256]) s (by simp; omega) 48 40 (by omega) (s / 256 ^ 6) rfl (by omega)
  have h3 := step1 (k + 6) (x ++ [s / 256 ^ 7 % 256] ++ [s / 256 ^ 6 % 256]) s (by simp; omega) 40 32 (by omega) (s / 256 ^ 5) rfl (by omega)
  have h4 := step1 (k + 5) (x ++ [s / 256 ^ 7 % 256] ++ [s / 256 ^ 6 % 256] ++ [s / 256 ^ 5 % 256]) s (by simp; omega) 32 24 (by omega) (s / 256 ^ 4) rfl (by omega)
  have h5 := step1 (k + 4) (x ++ [s / 256 ^ 7 % 256] ++ [s / 256 ^ 6 % 256] ++ [s / 256 ^ 5 % 256] ++ [s / 256 ^ 4 % 256]) s (by simp; omega) 24 16 (by omega) (s / 256 ^ 3) rfl (by omega)
  have h6 := step1 (k + 3) (x ++ [s / 256 ^ 7 % 256] ++ [s / 256 ^ 6 % 256] ++ [s / 256 ^ 5 % 256] ++ [s / 256 ^ 4 % 256] ++ [s / 256 ^ 3 % 256]) s (by simp; omega) 16 8 (by omega) (s / 256 ^ 2) rfl (by omega)
  have h7 := step1 (k + 2) (x ++ [s / 256 ^ 7 % 256] ++ [s / 256 ^ 6 % 256] ++ [s / 256 ^ 5 % 256] ++ [s / 256 ^ 4 % 256] ++ [s / 256 ^ 3 % 256] ++ [s / 256 ^ 2 % 256]) s (by simp; omega) 8 0 (by omega) (s / 256 ^ 1) rfl (by omega)
  have h8 := step1 (k + 1) (x ++ [s / 256 ^ 7 % 256] ++ [s / 256 ^ 6 % 256] ++ [s / 256 ^ 5 % 256] ++ [s / 256 ^ 4 % 256] ++ [s / 256 ^ 3 % 256] ++ [s / 256 ^ 2 % 256] ++ [s / 256 ^ 1 % 256]) s (by simp; omega) 0 0 (by omega) (s / 256 ^ 0) rfl (by omega)
  refine h1.trans (h2.trans (h3.trans (h4.trans (h5.trans (h6.trans (h7.trans (h8.trans ?_)))))))
  simp only [incognitoref03_Pad.l1]
  rw [if_neg (by omega)]
  simp only [bigL, List.append_assoc, List.cons_append, List.nil_append]
theorem l0_ev (n : Int) (h0 : 0 ≤ n) (h1 : n < 18446744073709551616) (m : Nat) (hm : n % 64 = m) (d : Nat) : ∀ (k j : Nat), j ≤ (119 - m) % 64 → (119 - m) % 64 - j = d → d + 9 < k →
    incognitoref03_Pad.l0 k n (128 :: List.replicate j 0) = some ((128 :: List.replicate ((119 - m) % 64) 0) ++ bigL (IntKind.u64.wrap (8 * n)) 8) := by
  have hw : ∀ x : Int, IntKind.u64.wrap x = x % 18446744073709551616 := fun x => rfl
  induction d with
  | zero =>
    intro k j hj hd hk
    obtain ⟨k, rfl⟩ : ∃ q, k = q + 9 + 1 := ⟨k - 10, by omega⟩
    obtain rfl : j = (119 - m) % 64 := by omega
    simp only [incognitoref03_Pad.l0, List.length_cons, List.length_replicate]
    rw [if_pos (by rw [hw, hw, hw, Int.tmod_eq_emod_of_nonneg (by omega)]; omega), l1_ev k _ _ (by simp; omega)]
  | succ d ih =>
    intro k j hj hd hk
    obtain ⟨k, rfl⟩ : ∃ q, k = q + 1 := ⟨k - 1, by omega⟩
    simp only [incognitoref03_Pad.l0, List.length_cons, List.length_replicate]
    rw [if_neg (by rw [hw, hw, hw, Int.tmod_eq_emod_of_nonneg (by omega)]; omega), if_pos (by omega)]
    have e : (128 :: List.replicate j (0 : Int)) ++ [0] = 128 :: List.replicate (j + 1) 0 := by rw [List.cons_append, ← List.replicate_succ']
    rw [e]
    exact ih k (j + 1) (by omega) (by omega) (by omega)
theorem pad_all (n : Int) (h0 : 0 ≤ n) (h1 : n < 18446744073709551616) (m : Nat) (hm : n % 64 = m) (k : Nat) (hk : 9 < k) : sha_Pad.f k n = some ((128 :: List.replicate ((119 - m) % 64) 0) ++ bigL (IntKind.u64.wrap (8 * n)) 8) := by
  have e0 : Int.tmod n 64 = (m : Int) := by rw [Int.tmod_eq_emod_of_nonneg h0]; exact hm
  have hm64 : m < 64 := by omega
  have e1 : IntKind.u64.wrap (119 - (m : Int)) = ((119 - m : Nat) : Int) := by rw [wu64 (by omega) (by omega)]; omega
  have e2 : Int.tmod ((119 - m : Nat) : Int) 64 = (((119 - m) % 64 : Nat) : Int) := by rw [Int.tmod_eq_emod_of_nonneg (by omega)]; omega
  obtain ⟨q, hq⟩ : ∃ q, (119 - m) % 64 = q := ⟨_, rfl⟩
  have hq64 : q < 64 := by omega
  have e3 : IntKind.u64.wrap (1 + (q : Int)) = ((1 + q : Nat) : Int) := by rw [wu64 (by omega) (by omega)]; omega
  unfold sha_Pad.f
  rw [e0, e1, e2, hq, e3, if_pos (by omega), if_pos (by omega)]
  simp only [Int.toNat_natCast, obind]
  rw [if_pos (by simp; omega), big_ev _ 8 (by omega) k hk]
  simp only [obind]
  rw [show min (8 : Int).toNat 8 = 8 from rfl, if_pos (by simp [bigL_length]; omega), show 1 + q = q + 1 by omega, List.replicate_succ]
  rfl

end Go.Proofs.YtalghfnjelcpnaaDoor.TpL
