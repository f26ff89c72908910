/- The plain laws of hex: what the printed functions come to, in lists and numbers, for bytes and texts of at most 2,000 signs (numbers of 64 bits); no program, no memory. -/
import Derived.Test.YtalghfnjelcpnaaHx
namespace Go.Proofs.Ytalghfnjelcpnaa.HexL
open Go.RowKit Go.Proofs.Ytalghfnjelcpnaa.Hx Go.Proofs.YtalghfnjelcpnaaW.PrintWords Go.Proofs.YtalghfnjelcpnaaW.PrintLast Go.Proofs.YtalghfnjelcpnaaW.PrintMore

theorem w64 {x : Int} (h0 : -9223372036854775808 ≤ x) (h1 : x ≤ 9223372036854775807) : wrap64 x = x := by unfold wrap64; omega
theorem wu64 {x : Int} (h0 : 0 ≤ x) (h1 : x < 18446744073709551616) : IntKind.u64.wrap x = x := IntWalk.u64_in _ (by omega)

/-- Bytes. -/
def Bytes (l : List Int) : Prop := ∀ x ∈ l, 0 ≤ x ∧ x ≤ 255
theorem bytes_of_wf {l : List Int} (h : ∀ x ∈ l, (Lit.int .u8 x).wf = true) : Bytes l := by
  intro x hx
  have := bounds_u8 (h x hx)
  omega
theorem bytes_rd {l : List Int} (h : Bytes l) (i : Int) : 0 ≤ rd l i ∧ rd l i ≤ 255 := by
  unfold rd
  rcases Nat.lt_or_ge i.toNat l.length with hi | hi
  · rw [List.getD_eq_getElem?_getD, List.getElem?_eq_getElem hi]
    exact h _ (List.getElem_mem hi)
  · rw [List.getD_eq_getElem?_getD, List.getElem?_eq_none hi]
    exact ⟨by decide, by decide⟩

/-! ### Same -/
theorem same_go (a b : List Int) (hl : a.length = b.length) (hm : (a.length : Int) ≤ 9223372036854775800) (d : Nat) : ∀ (k i : Nat), i ≤ a.length → a.length - i = d → d < k →
    incognitoref01_Same.l0 k a b (i : Int) = some (decide (a.drop i = b.drop i)) := by
  induction d with
  | zero =>
    intro k i h0 h1 hk
    obtain ⟨k, rfl⟩ : ∃ m, k = m + 1 := ⟨k - 1, by omega⟩
    simp only [incognitoref01_Same.l0]
    rw [if_neg (by omega), List.drop_eq_nil_of_le (by omega), List.drop_eq_nil_of_le (by omega)]
    simp
  | succ d ih =>
    intro k i h0 h1 hk
    obtain ⟨k, rfl⟩ : ∃ m, k = m + 1 := ⟨k - 1, by omega⟩
    simp only [incognitoref01_Same.l0]
    have hi : i < a.length := by omega
    have hi' : i < b.length := by omega
    rw [if_pos (by omega), if_pos (by omega), if_pos (by omega)]
    have ea : rd a (i : Int) = a[i] := by unfold rd; simp [List.getD_eq_getElem?_getD, hi]
    have eb : rd b (i : Int) = b[i] := by unfold rd; simp [List.getD_eq_getElem?_getD, hi']
    rw [ea, eb, List.drop_eq_getElem_cons hi, List.drop_eq_getElem_cons hi']
    by_cases e : a[i] = b[i]
    · rw [if_pos e, w64 (by omega) (by omega), show (i : Int) + 1 = ((i + 1 : Nat) : Int) by omega, ih k (i + 1) (by omega) (by omega) (by omega), e]
      simp only [List.cons.injEq, true_and]
    · rw [if_neg e]
      simp only [List.cons.injEq, e, false_and, decide_false]
theorem same_ev (a b : List Int) (hm : (a.length : Int) ≤ 9223372036854775800) : ∀ k, a.length < k → incognitoref01_Same.f k a b = some (decide (a = b)) := by
  intro k hk
  unfold incognitoref01_Same.f
  by_cases e : a.length = b.length
  · rw [if_pos (by omega)]
    have := same_go a b e hm a.length k 0 (by omega) (by omega) hk
    simpa using this
  · rw [if_neg (by omega)]
    have : a ≠ b := fun h => e (by rw [h])
    simp [this]

theorem same_self (a : List Int) (hm : (a.length : Int) ≤ 9223372036854775800) : ∀ k, a.length < k → incognitoref01_Same.f k a a = some true := by
  intro k hk
  rw [same_ev a a hm k hk]
  simp

/-! ### Digit -/
theorem digit_all : ∀ c : Fin 256, hex_Digit.f 2 (c.val : Int) = some (dgI (c.val : Int)) := by decide +kernel
theorem digit_ev (c : Int) (h0 : 0 ≤ c) (h1 : c ≤ 255) : ∀ k, 2 ≤ k → hex_Digit.f k c = some (dgI c) := by
  intro k hk
  have h := digit_all ⟨c.toNat, by omega⟩
  simp only [Int.toNat_of_nonneg h0] at h
  exact at_rounds (fun k => hex_Digit.mono c k) hk h
theorem refdigit_all : ∀ c : Fin 256, incognitoref01_Digit.f 40 (c.val : Int) = some (dgI (c.val : Int)) := by decide +kernel
theorem refdigit_ev (c : Int) (h0 : 0 ≤ c) (h1 : c ≤ 255) : ∀ k, 40 ≤ k → incognitoref01_Digit.f k c = some (dgI c) := by
  intro k hk
  have h := refdigit_all ⟨c.toNat, by omega⟩
  simp only [Int.toNat_of_nonneg h0] at h
  exact at_rounds (fun k => incognitoref01_Digit.mono c k) hk h
theorem dgI_cases (c : Int) : (48 ≤ c ∧ c ≤ 57 ∧ dgI c = c - 48) ∨ (97 ≤ c ∧ c ≤ 102 ∧ dgI c = c - 87) ∨ (dgI c = -1 ∧ ¬ (48 ≤ c ∧ c ≤ 57) ∧ ¬ (97 ≤ c ∧ c ≤ 102)) := by
  unfold dgI
  split
  · rename_i h; exact .inl ⟨h.1, h.2, rfl⟩
  · rename_i h
    split
    · rename_i h2; exact .inr (.inl ⟨h2.1, h2.2, rfl⟩)
    · rename_i h2; exact .inr (.inr ⟨rfl, h, h2⟩)
theorem dgI_inj {a b : Int} (h : dgI a = dgI b) (h0 : 0 ≤ dgI a) : a = b := by
  have := dgI_cases a
  have := dgI_cases b
  omega

/-! ### Encode -/
def hx (n : Int) : Int := if n < 10 then 48 + n else 87 + n
def encL (l : List Int) : List Int := l.flatMap fun c => [hx (c / 16), hx (c % 16)]
theorem encL_length (l : List Int) : (encL l).length = 2 * l.length := by
  induction l with
  | nil => rfl
  | cons a l ih => simp only [encL, List.flatMap_cons, List.length_append, List.length_cons] at *; simp only [List.length_nil]; omega
theorem encL_take (l : List Int) (i : Nat) (h : i < l.length) : encL (l.take (i + 1)) = encL (l.take i) ++ [hx (l[i] / 16), hx (l[i] % 16)] := by
  unfold encL
  rw [List.take_succ_eq_append_getElem h, List.flatMap_append]
  simp only [List.flatMap_cons, List.flatMap_nil, List.append_nil]
theorem hxbt : ∀ n : Fin 16, bt (⟨#[48, 49, 50, 51, 52, 53, 54, 55, 56, 57, 97, 98, 99, 100, 101, 102]⟩ : ByteArray) (n.val : Int) = hx (n.val : Int) := by decide +kernel
theorem hx_bt (n : Int) (h0 : 0 ≤ n) (h1 : n < 16) : bt (⟨#[48, 49, 50, 51, 52, 53, 54, 55, 56, 57, 97, 98, 99, 100, 101, 102]⟩ : ByteArray) n = hx n := by
  have h := hxbt ⟨n.toNat, by omega⟩
  simpa only [Int.toNat_of_nonneg h0] using h
theorem and15 (n : Int) (h0 : 0 ≤ n) (h1 : n ≤ 255) : Go.bits .and .u8 n 15 = n % 16 := by
  rw [u8_and n 15 h0 (by omega) (by omega) (by omega), show (15 : Int).toNat = 15 from rfl, nat_mask4]
  omega
theorem rd_at (l : List Int) (i : Nat) (h : i < l.length) : rd l (i : Int) = l[i] := by unfold rd; simp [List.getD_eq_getElem?_getD, h]
theorem enc_go (l : List Int) (hb : Bytes l) (hl : l.length ≤ 70368744177000) (d : Nat) : ∀ (k i : Nat), i ≤ l.length → l.length - i = d → d < k →
    hex_Encode.l0 k (encL (l.take i)) l (l.length : Int) (i : Int) = some (strOfNums (encL l)) := by
  induction d with
  | zero =>
    intro k i h0 h1 hk
    obtain ⟨k, rfl⟩ : ∃ m, k = m + 1 := ⟨k - 1, by omega⟩
    simp only [hex_Encode.l0]
    rw [if_neg (by omega), List.take_of_length_le (by omega)]
  | succ d ih =>
    intro k i h0 h1 hk
    obtain ⟨k, rfl⟩ : ∃ m, k = m + 1 := ⟨k - 1, by omega⟩
    have hi : i < l.length := by omega
    simp only [hex_Encode.l0]
    rw [if_pos (by omega), if_pos (by omega), if_pos (by omega), rd_at l i hi]
    obtain ⟨b0, b1⟩ := hb _ (List.getElem_mem hi)
    rw [and15 _ b0 b1, if_pos (by omega), if_pos (by omega), if_pos (by omega), if_pos (by omega), hx_bt _ (by omega) (by omega), hx_bt _ (by omega) (by omega)]
    simp only [Option.bind_some]
    have e1 := encL_length (l.take i)
    rw [List.length_take] at e1
    rw [if_pos (by simp only [List.length_cons, List.length_nil]; omega), w64 (by omega) (by omega), ← encL_take l i hi, show (i : Int) + 1 = ((i + 1 : Nat) : Int) by omega]
    exact ih k (i + 1) (by omega) (by omega) (by omega)
theorem enc_ev (l : List Int) (hb : Bytes l) (hl : l.length ≤ 70368744177000) : ∀ k, l.length < k → hex_Encode.f k l = some (strOfNums (encL l)) := by
  intro k hk
  unfold hex_Encode.f
  rw [w64 (by omega) (by omega), if_pos (by omega), if_pos (by omega)]
  exact enc_go l hb hl l.length k 0 (by omega) (by omega) hk
theorem sign_val (n : Int) (h0 : 0 ≤ n) (h1 : n < 16) : incognitoref01_sign.f n = some (hx n) := by
  unfold incognitoref01_sign.f hx
  by_cases c : n < 10
  · rw [if_pos c, if_pos c]; congr 1; omega
  · rw [if_neg c, if_neg c]; congr 1; omega
theorem strOfNums_append (a b : List Int) : strOfNums (a ++ b) = strOfNums a ++ strOfNums b := by
  apply ByteArray.ext
  simp [strOfNums]
theorem refenc_go (l : List Int) (hb : Bytes l) (hl : l.length ≤ 70368744177000) (d : Nat) : ∀ (k i : Nat), i ≤ l.length → l.length - i = d → d < k →
    incognitoref01_Encode.l0 k l (strOfNums (encL (l.take i))) (i : Int) = some (strOfNums (encL l)) := by
  induction d with
  | zero =>
    intro k i h0 h1 hk
    obtain ⟨k, rfl⟩ : ∃ m, k = m + 1 := ⟨k - 1, by omega⟩
    simp only [incognitoref01_Encode.l0]
    rw [if_neg (by omega), List.take_of_length_le (by omega)]
  | succ d ih =>
    intro k i h0 h1 hk
    obtain ⟨k, rfl⟩ : ∃ m, k = m + 1 := ⟨k - 1, by omega⟩
    have hi : i < l.length := by omega
    simp only [incognitoref01_Encode.l0]
    obtain ⟨b0, b1⟩ := hb _ (List.getElem_mem hi)
    rw [if_pos (by omega), if_pos (by omega), rd_at l i hi, Int.tdiv_eq_ediv_of_nonneg b0, Int.tmod_eq_emod_of_nonneg b0, Int.emod_eq_of_lt (by omega) (by omega), sign_val _ (by omega) (by omega), sign_val _ (by omega) (by omega)]
    simp only [Option.bind_some]
    have e1 := encL_length (l.take i)
    rw [List.length_take] at e1
    rw [if_pos (by simp only [strOfNums_size, List.length_cons, List.length_nil]; omega), w64 (by omega) (by omega), ← strOfNums_append, ← encL_take l i hi, show (i : Int) + 1 = ((i + 1 : Nat) : Int) by omega]
    exact ih k (i + 1) (by omega) (by omega) (by omega)
theorem refenc_ev (l : List Int) (hb : Bytes l) (hl : l.length ≤ 70368744177000) : ∀ k, l.length < k → incognitoref01_Encode.f k l = some (strOfNums (encL l)) := by
  intro k hk
  exact refenc_go l hb hl l.length k 0 (by omega) (by omega) hk

/-! ### Big -/
def bigL (n : Int) : Nat → List Int
  | 0 => []
  | t + 1 => (n / 256 ^ t) % 256 :: bigL n t
theorem bigL_length (n : Int) (t : Nat) : (bigL n t).length = t := by induction t with
  | zero => rfl
  | succ t ih => simp [bigL, ih]
theorem set_rep (m : Nat) (v : Int) (r : List Int) : (List.replicate (m + 1) 0 ++ r).set m v = List.replicate m 0 ++ v :: r := by
  rw [List.replicate_succ', List.append_assoc, List.set_append_right _ _ (by simp)]
  simp
theorem div_pow_succ (n : Int) (t : Nat) : n / 256 ^ t / 256 = n / 256 ^ (t + 1) := by
  rw [Int.ediv_ediv_of_nonneg (Int.pow_nonneg (by decide)), ← Int.pow_succ]
theorem big_go (n : Int) (m : Nat) (hm : m ≤ 8) (d : Nat) : ∀ (k t : Nat), t ≤ m → m - t = d → d < k →
    hex_Big.l0 k (n / 256 ^ t) (List.replicate (m - t) 0 ++ bigL n t) ((m : Int) - t - 1) = some (bigL n m) := by
  induction d with
  | zero =>
    intro k t h0 h1 hk
    obtain ⟨k, rfl⟩ : ∃ m, k = m + 1 := ⟨k - 1, by omega⟩
    obtain rfl : t = m := by omega
    simp only [hex_Big.l0]
    rw [if_neg (by omega)]
    simp
  | succ d ih =>
    intro k t h0 h1 hk
    obtain ⟨k, rfl⟩ : ∃ m, k = m + 1 := ⟨k - 1, by omega⟩
    simp only [hex_Big.l0]
    rw [if_pos (by omega), if_pos (by omega), if_pos (by simp only [List.length_append, List.length_replicate, bigL_length]; omega), w64 (by omega) (by omega), div_pow_succ,
      show ((m : Int) - t - 1).toNat = m - (t + 1) by omega, show m - t = m - (t + 1) + 1 by omega, set_rep]
    have := ih k (t + 1) (by omega) (by omega) (by omega)
    rw [show (m : Int) - t - 1 - 1 = (m : Int) - ((t + 1 : Nat) : Int) - 1 by omega]
    exact this
theorem big_ev (n : Int) (s : Int) (h0 : -9223372036854775808 ≤ s) : ∀ k, 9 < k → hex_Big.f k n s = some (bigL n (min s.toNat 8)) := by
  intro k hk
  unfold hex_Big.f
  by_cases c : s < 1
  · rw [if_pos c, show s.toNat = 0 by omega]; rfl
  · rw [if_neg c]
    have e : mn s 8 = ((min s.toNat 8 : Nat) : Int) := by unfold mn; split <;> omega
    rw [e, if_pos (by omega), if_pos (by omega)]
    simp only [Option.bind_some, Int.toNat_natCast, List.length_replicate]
    rw [w64 (by omega) (by omega)]
    have := big_go n (min s.toNat 8) (by omega) (min s.toNat 8) k 0 (by omega) (by omega) (by omega)
    simpa [bigL] using this
theorem refbig_go (n : Int) (h0 : 0 ≤ n) (h1 : n < 18446744073709551616) (s : Int) (hs : s ≤ 9223372036854775807) (d : Nat) : ∀ (k t : Nat), t ≤ min s.toNat 8 → min s.toNat 8 - t = d → d < k →
    incognitoref01_Big.l0 k (n / 256 ^ t) s (bigL n t) (t : Int) = some (bigL n (min s.toNat 8)) := by
  induction d with
  | zero =>
    intro k t h0 h1 hk
    obtain ⟨k, rfl⟩ : ∃ m, k = m + 1 := ⟨k - 1, by omega⟩
    simp only [incognitoref01_Big.l0]
    by_cases c : (t : Int) < s
    · rw [if_pos c, if_neg (by omega), show min s.toNat 8 = t by omega]
    · rw [if_neg c, show min s.toNat 8 = t by omega]
  | succ d ih =>
    intro k t h2 h3 hk
    obtain ⟨k, rfl⟩ : ∃ m, k = m + 1 := ⟨k - 1, by omega⟩
    have hp : (0 : Int) < 256 ^ t := Int.pow_pos (by decide)
    have hq : 0 ≤ n / 256 ^ t := Int.ediv_nonneg h0 (by omega)
    have hq2 : n / 256 ^ t ≤ n := Int.ediv_le_self _ h0
    simp only [incognitoref01_Big.l0]
    rw [if_pos (by omega), if_pos (by omega)]
    simp only [Option.bind_some]
    rw [if_pos (by simp only [List.length_cons, List.length_nil, bigL_length]; omega), Int.tdiv_eq_ediv_of_nonneg hq, Int.tmod_eq_emod_of_nonneg hq, Int.emod_emod_of_dvd _ (Int.dvd_refl _), wu64 (by omega) (by omega), w64 (by omega) (by omega), div_pow_succ]
    exact ih k (t + 1) (by omega) (by omega) (by omega)
theorem refbig_ev (n : Int) (h0 : 0 ≤ n) (h1 : n < 18446744073709551616) (s : Int) (hs : s ≤ 9223372036854775807) : ∀ k, 9 < k → incognitoref01_Big.f k n s = some (bigL n (min s.toNat 8)) := by
  intro k hk
  have := refbig_go n h0 h1 s hs (min s.toNat 8) k 0 (by omega) (by omega) (by omega)
  simpa [incognitoref01_Big.f, bigL] using this

/-! ### Num -/
def numL (l : List Int) : Int := l.foldl (fun n c => n * 256 + c) 0
theorem numL_snoc (l : List Int) (c : Int) : numL (l ++ [c]) = numL l * 256 + c := by simp [numL]
theorem bytes_snoc {l : List Int} {c : Int} (h : Bytes (l ++ [c])) : Bytes l ∧ 0 ≤ c ∧ c ≤ 255 := ⟨fun x hx => h x (by simp [hx]), h c (by simp)⟩
theorem numL_bd : ∀ (t : Nat) (l : List Int), l.length = t → Bytes l → 0 ≤ numL l ∧ numL l < 256 ^ t := by
  intro t
  induction t with
  | zero => intro l hl _; rw [List.length_eq_zero_iff.1 hl]; decide
  | succ t ih =>
    intro l hl hb
    rcases List.eq_nil_or_concat l with rfl | ⟨a, c, rfl⟩
    · simp at hl
    · rw [List.concat_eq_append] at hb hl ⊢
      obtain ⟨h1, h2, h3⟩ := bytes_snoc hb
      obtain ⟨h4, h5⟩ := ih a (by simpa using hl) h1
      rw [numL_snoc, Int.pow_succ]
      omega
theorem or_add (a c : Int) (h0 : 0 ≤ a) (h1 : a * 256 < 18446744073709551616) (h2 : 0 ≤ c) (h3 : c ≤ 255) : Go.bits .or .u64 (IntKind.u64.wrap (a * 256)) (IntKind.u64.wrap c) = a * 256 + c := by
  rw [wu64 (by omega) h1, wu64 h2 (by omega), u64_or _ _ (by omega) h1 h2 (by omega), nat_join 8 _ _ (by omega) (by omega)]
  omega
theorem pow_le8 (t : Nat) (h : t ≤ 7) : (256 : Int) ^ t * 256 ≤ 18446744073709551616 := by
  rcases (by omega : t = 0 ∨ t = 1 ∨ t = 2 ∨ t = 3 ∨ t = 4 ∨ t = 5 ∨ t = 6 ∨ t = 7) with rfl | rfl | rfl | rfl | rfl | rfl | rfl | rfl <;> decide
theorem num_go (l : List Int) (hb : Bytes l) (hl : l.length ≤ 8) (d : Nat) : ∀ (k i : Nat), i ≤ l.length → l.length - i = d → d < k →
    hex_Num.l0 k (numL (l.take i)) l (l.length : Int) (i : Int) = some (numL l, true) := by
  induction d with
  | zero =>
    intro k i h0 h1 hk
    obtain ⟨k, rfl⟩ : ∃ m, k = m + 1 := ⟨k - 1, by omega⟩
    simp only [hex_Num.l0]
    rw [if_neg (by omega), List.take_of_length_le (by omega)]
  | succ d ih =>
    intro k i h0 h1 hk
    obtain ⟨k, rfl⟩ : ∃ m, k = m + 1 := ⟨k - 1, by omega⟩
    have hi : i < l.length := by omega
    simp only [hex_Num.l0]
    obtain ⟨b0, b1⟩ := hb _ (List.getElem_mem hi)
    have hbt : Bytes (l.take i) := fun x hx => hb x (List.mem_of_mem_take hx)
    obtain ⟨n0, n1⟩ := numL_bd i (l.take i) (by simp; omega) hbt
    have p8 := pow_le8 i (by omega)
    rw [if_pos (by omega), if_pos (by omega), if_pos (by omega), rd_at l i hi, or_add _ _ n0 (by omega) b0 b1, ← numL_snoc, ← List.take_succ_eq_append_getElem hi, w64 (by omega) (by omega), show (i : Int) + 1 = ((i + 1 : Nat) : Int) by omega]
    exact ih k (i + 1) (by omega) (by omega) (by omega)
theorem num_ev (l : List Int) (hb : Bytes l) (hl : l.length ≤ 8) : ∀ k, l.length < k → hex_Num.f k l = some (numL l, true) := by
  intro k hk
  unfold hex_Num.f
  rw [if_neg (by omega)]
  exact num_go l hb hl l.length k 0 (by omega) (by omega) hk
theorem bigL_bytes (n : Int) (t : Nat) : Bytes (bigL n t) := by
  induction t with
  | zero => intro x hx; cases hx
  | succ t ih =>
    intro x hx
    rcases List.mem_cons.1 hx with rfl | hx
    · omega
    · exact ih x hx
theorem bigL_snoc (n : Int) (t : Nat) : bigL n (t + 1) = bigL (n / 256) t ++ [n % 256] := by
  induction t with
  | zero => simp [bigL]
  | succ t ih =>
    rw [bigL, ih, bigL]
    simp only [List.cons_append]
    rw [Int.ediv_ediv_of_nonneg (by decide), ← Int.pow_succ']
theorem num_big : ∀ (t : Nat) (n : Int), 0 ≤ n → n < 256 ^ t → numL (bigL n t) = n := by
  intro t
  induction t with
  | zero => intro n h0 h1; simp [bigL, numL] at *; omega
  | succ t ih =>
    intro n h0 h1
    rw [Int.pow_succ] at h1
    rw [bigL_snoc, numL_snoc, ih (n / 256) (by omega) (by omega)]
    omega
theorem big_num : ∀ (t : Nat) (l : List Int), l.length = t → Bytes l → bigL (numL l) t = l := by
  intro t
  induction t with
  | zero => intro l hl _; rw [List.length_eq_zero_iff.1 hl]; rfl
  | succ t ih =>
    intro l hl hb
    rcases List.eq_nil_or_concat l with rfl | ⟨a, c, rfl⟩
    · simp at hl
    · rw [List.concat_eq_append] at hb hl ⊢
      obtain ⟨h1, h2, h3⟩ := bytes_snoc hb
      rw [bigL_snoc, numL_snoc, show (numL a * 256 + c) / 256 = numL a by omega, show (numL a * 256 + c) % 256 = c by omega, ih a (by simpa using hl) h1]
theorem bigL_drop (n : Int) (m t : Nat) (h : t ≤ m) : (bigL n m).drop (m - t) = bigL n t := by
  induction m with
  | zero => obtain rfl : t = 0 := by omega
            rfl
  | succ m ih =>
    by_cases e : t = m + 1
    · subst e; simp
    · rw [show m + 1 - t = (m - t) + 1 by omega, bigL, List.drop_succ_cons]
      exact ih (by omega)

/-! ### the examples; the bytes of a text -/
theorem wakes_at : incognitolaw01_wakes.f 50 = some true := by decide +kernel
theorem wakes_ev : ∀ k, 50 ≤ k → incognitolaw01_wakes.f k = some true := fun _ hk => at_rounds incognitolaw01_wakes.mono hk wakes_at

theorem getD_map_range (n : Nat) (f : Nat → Int) (j : Nat) : ((List.range n).map f).getD j 0 = if j < n then f j else 0 := by
  rw [List.getD_eq_getElem?_getD]
  by_cases h : j < n
  · simp [h]
  · simp [h]
theorem set_map_range (n : Nat) (f : Nat → Int) (j : Nat) (v : Int) : ((List.range n).map f).set j v = (List.range n).map fun i => if i = j then v else f i := by
  apply List.ext_getElem?
  intro i
  by_cases e : j = i
  · subst e
    by_cases h : j < n
    · rw [List.getElem?_set_self (by simpa using h)]; simp [h]
    · rw [List.getElem?_eq_none (by simp; omega), List.getElem?_eq_none (by simp; omega)]
  · rw [List.getElem?_set_ne e]
    by_cases h : i < n
    · simp [h, Ne.symm e]
    · simp [h]
/-- The byte at place j. -/
def full (s : ByteArray) (j : Nat) : Int := dgI (bt s (2 * j : Nat)) * 16 + dgI (bt s (2 * j + 1 : Nat))
def bytesS (s : ByteArray) : List Int := (List.range (s.size / 2)).map (full s)
theorem dgI_bd (c : Int) : -1 ≤ dgI c ∧ dgI c ≤ 15 := by have := dgI_cases c; omega
theorem stepO_zero (d : Int) (h0 : 0 ≤ d) (h1 : d ≤ 15) : stepO 0 d = d := by
  unfold stepO
  rw [IntWalk.u8_in _ (by omega), u8_or _ _ (by omega) (by omega) (by omega) (by omega)]
  simp; omega
theorem stepO_one (a d : Int) (ha0 : 0 ≤ a) (ha1 : a ≤ 15) (h0 : 0 ≤ d) (h1 : d ≤ 15) : stepO a d = a * 16 + d := by
  unfold stepO
  rw [IntWalk.u8_in _ (by omega), u8_or _ _ (by omega) (by omega) (by omega) (by omega), nat_join 4 _ _ (by omega) (by omega)]
  omega
theorem decO_form (s : ByteArray) (ha : ∀ j : Nat, j < s.size → 0 ≤ dgI (bt s j)) : ∀ i : Nat, i ≤ s.size →
    decO s i = (List.range (s.size / 2)).map fun j => if 2 * j + 1 < i then full s j else if 2 * j < i then dgI (bt s (2 * j : Nat)) else 0 := by
  intro i
  induction i with
  | zero =>
    intro _
    apply List.ext_getElem?
    intro j
    by_cases h : j < s.size / 2
    · simp [decO, h]
    · simp [decO, h]
  | succ i ih =>
    intro hi
    rw [decO, ih (by omega), getD_map_range, set_map_range]
    apply List.map_congr_left
    intro j hj
    have hj := List.mem_range.1 hj
    have hd := ha i (by omega)
    have hd1 := (dgI_bd (bt s i)).2
    by_cases e : j = i / 2
    · rw [if_pos e, if_pos (by omega)]
      by_cases par : i % 2 = 0
      · have e2 : 2 * j = i := by omega
        rw [if_neg (by omega), if_neg (by omega), if_neg (by omega), if_pos (by omega), stepO_zero _ hd hd1, e2]
      · have e2 : 2 * j + 1 = i := by omega
        have hd2 := ha (2 * j) (by omega)
        have hd3 := (dgI_bd (bt s (2 * j : Nat))).2
        rw [← e, if_neg (by omega), if_pos (by omega), if_pos (by omega), stepO_one _ _ hd2 hd3 hd hd1, ← e2]
        rfl
    · rw [if_neg e]
      by_cases c1 : 2 * j + 1 < i
      · rw [if_pos c1, if_pos (by omega)]
      · rw [if_neg c1, if_neg (by omega), if_neg (by omega), if_neg (by omega)]
theorem decO_all (s : ByteArray) (ha : ∀ j : Nat, j < s.size → 0 ≤ dgI (bt s j)) : decO s s.size = bytesS s := by
  rw [decO_form s ha s.size (Nat.le_refl _)]
  apply List.map_congr_left
  intro j hj
  have := List.mem_range.1 hj
  rw [if_pos (by omega)]
theorem allDg_iff (s : ByteArray) : allDg s = true ↔ ∀ j : Nat, j < s.size → 0 ≤ dgI (bt s j) := by
  unfold allDg
  rw [List.all_eq_true]
  constructor
  · intro h j hj
    simpa using h j (List.mem_range.2 hj)
  · intro h j hj
    simpa using h j (List.mem_range.1 hj)
theorem dec_yes (s : ByteArray) (hs : s.size ≤ 140737488351232) (he : s.size % 2 = 0) (ha : ∀ j : Nat, j < s.size → 0 ≤ dgI (bt s j)) : hex_Decode.f s = some (bytesS s, 0) := by
  unfold hex_Decode.f
  rw [if_pos hs, if_pos ⟨he, (allDg_iff s).2 ha⟩, decO_all s ha]
theorem dec_no (s : ByteArray) (hs : s.size ≤ 140737488351232) (h : ¬ (s.size % 2 = 0 ∧ ∀ j : Nat, j < s.size → 0 ≤ dgI (bt s j))) : hex_Decode.f s = some ([], 2) := by
  unfold hex_Decode.f
  rw [if_pos hs, if_neg (fun h2 => h ⟨h2.1, (allDg_iff s).1 h2.2⟩)]
theorem bytesS_bytes (s : ByteArray) (ha : ∀ j : Nat, j < s.size → 0 ≤ dgI (bt s j)) : Bytes (bytesS s) := by
  intro x hx
  obtain ⟨j, hj, rfl⟩ := List.mem_map.1 hx
  have hj := List.mem_range.1 hj
  have h1 := ha (2 * j) (by omega)
  have h2 := ha (2 * j + 1) (by omega)
  have h3 := (dgI_bd (bt s (2 * j : Nat))).2
  have h4 := (dgI_bd (bt s (2 * j + 1 : Nat))).2
  unfold full
  omega
theorem bytesS_length (s : ByteArray) : (bytesS s).length = s.size / 2 := by simp [bytesS]

/-! ### the text of bytes, and back -/
theorem bt_strOfNums (l : List Int) (hb : Bytes l) (j : Nat) : bt (strOfNums l) j = l.getD j 0 := by
  unfold bt
  simp only [Int.toNat_natCast, strOfNums_size]
  split
  · rename_i h
    have e : (strOfNums l)[j]'(by simpa [strOfNums_size] using h) = UInt8.ofNat (l[j]).toNat := by
      show (strOfNums l).data[j]'_ = _
      simp [strOfNums]
    rw [e, List.getD_eq_getElem?_getD, List.getElem?_eq_getElem h]
    obtain ⟨h0, h1⟩ := hb _ (List.getElem_mem h)
    simp only [UInt8.toNat_ofNat', Option.getD_some]
    omega
  · rename_i h
    rw [List.getD_eq_getElem?_getD, List.getElem?_eq_none (by omega)]
    rfl
theorem hx_bd (n : Int) (h0 : 0 ≤ n) (h1 : n < 16) : 0 ≤ hx n ∧ hx n ≤ 255 := by unfold hx; split <;> omega
theorem dg_hx (n : Int) (h0 : 0 ≤ n) (h1 : n < 16) : dgI (hx n) = n := by
  have := dgI_cases (hx n)
  by_cases c : n < 10
  · have e : hx n = 48 + n := if_pos c
    rw [e] at this ⊢; omega
  · have e : hx n = 87 + n := if_neg c
    rw [e] at this ⊢; omega
theorem encL_bytes (l : List Int) (hb : Bytes l) : Bytes (encL l) := by
  intro x hx0
  obtain ⟨c, hc, hx0⟩ := List.mem_flatMap.1 hx0
  obtain ⟨h0, h1⟩ := hb c hc
  simp only [List.mem_cons, List.not_mem_nil, or_false] at hx0
  rcases hx0 with rfl | rfl
  · exact hx_bd _ (by omega) (by omega)
  · exact hx_bd _ (by omega) (by omega)
theorem encL_at (l : List Int) : ∀ j, j < l.length → (encL l).getD (2 * j) 0 = hx (l.getD j 0 / 16) ∧ (encL l).getD (2 * j + 1) 0 = hx (l.getD j 0 % 16) := by
  induction l with
  | nil => intro j hj; cases hj
  | cons a l ih =>
    intro j hj
    have e : encL (a :: l) = hx (a / 16) :: hx (a % 16) :: encL l := rfl
    rw [e]
    cases j with
    | zero => exact ⟨rfl, rfl⟩
    | succ j =>
      have := ih j (by simpa using hj)
      rw [show 2 * (j + 1) = 2 * j + 1 + 1 by omega]
      simpa using this
theorem dec_enc (l : List Int) (hb : Bytes l) (hl : l.length ≤ 70368744175616) : hex_Decode.f (strOfNums (encL l)) = some (l, 0) := by
  have hsz : (strOfNums (encL l)).size = 2 * l.length := by rw [strOfNums_size, encL_length]
  have hdg : ∀ j, j < l.length → dgI (bt (strOfNums (encL l)) (2 * j : Nat)) = l.getD j 0 / 16 ∧ dgI (bt (strOfNums (encL l)) (2 * j + 1 : Nat)) = l.getD j 0 % 16 := by
    intro j hj
    obtain ⟨e1, e2⟩ := encL_at l j hj
    have hbj : 0 ≤ l.getD j 0 ∧ l.getD j 0 ≤ 255 := by
      rw [List.getD_eq_getElem?_getD, List.getElem?_eq_getElem hj]
      exact hb _ (List.getElem_mem hj)
    rw [bt_strOfNums _ (encL_bytes l hb), bt_strOfNums _ (encL_bytes l hb), e1, e2, dg_hx _ (by omega) (by omega), dg_hx _ (by omega) (by omega)]
    exact ⟨rfl, rfl⟩
  have ha : ∀ j : Nat, j < (strOfNums (encL l)).size → 0 ≤ dgI (bt (strOfNums (encL l)) j) := by
    intro j hj
    obtain ⟨e1, e2⟩ := hdg (j / 2) (by omega)
    have hbj : 0 ≤ l.getD (j / 2) 0 ∧ l.getD (j / 2) 0 ≤ 255 := by
      rw [List.getD_eq_getElem?_getD, List.getElem?_eq_getElem (by omega)]
      exact hb _ (List.getElem_mem _)
    by_cases par : j % 2 = 0
    · rw [show 2 * (j / 2) = j by omega] at e1; omega
    · rw [show 2 * (j / 2) + 1 = j by omega] at e2; omega
  rw [dec_yes _ (by omega) (by omega) ha]
  congr 2
  apply List.ext_getElem?
  intro j
  by_cases hj : j < l.length
  · obtain ⟨e1, e2⟩ := hdg j hj
    rw [List.getElem?_eq_getElem hj]
    have hj2 : j < (strOfNums (encL l)).size / 2 := by omega
    have hb2 := hb _ (List.getElem_mem hj)
    simp only [bytesS, List.getElem?_map, List.getElem?_range, hj2, Option.map_some, full, e1, e2]
    rw [List.getD_eq_getElem?_getD, List.getElem?_eq_getElem hj]
    simp only [Option.getD_some, Option.some.injEq]
    omega
  · rw [List.getElem?_eq_none (by rw [bytesS_length]; omega), List.getElem?_eq_none (by omega)]
/-- What was read has these digits. -/
theorem enc_dec (s : ByteArray) (he : s.size % 2 = 0) (ha : ∀ j : Nat, j < s.size → 0 ≤ dgI (bt s j)) : strOfNums (encL (bytesS s)) = s := by
  have hx2 : ∀ j : Nat, j < s.size → hx (dgI (bt s j)) = bt s j := by
    intro j hj
    have := dgI_cases (bt s j)
    have := ha j hj
    unfold hx
    split <;> omega
  have hbb := bytesS_bytes s ha
  have hlen : (encL (bytesS s)).length = s.size := by rw [encL_length, bytesS_length]; omega
  have hat : ∀ j, j < s.size → (encL (bytesS s)).getD j 0 = bt s j := by
    intro j hj
    have hj2 : j / 2 < s.size / 2 := by omega
    obtain ⟨e1, e2⟩ := encL_at (bytesS s) (j / 2) (by rw [bytesS_length]; exact hj2)
    have hv : (bytesS s).getD (j / 2) 0 = full s (j / 2) := by unfold bytesS; rw [getD_map_range, if_pos hj2]
    have h1 := ha (2 * (j / 2)) (by omega)
    have h2 := ha (2 * (j / 2) + 1) (by omega)
    have h3 := (dgI_bd (bt s (2 * (j / 2) : Nat))).2
    have h4 := (dgI_bd (bt s (2 * (j / 2) + 1 : Nat))).2
    rw [hv] at e1 e2
    have f1 : full s (j / 2) / 16 = dgI (bt s (2 * (j / 2) : Nat)) := by unfold full; omega
    have f2 : full s (j / 2) % 16 = dgI (bt s (2 * (j / 2) + 1 : Nat)) := by unfold full; omega
    rw [f1, hx2 _ (by omega)] at e1
    rw [f2, hx2 _ (by omega)] at e2
    by_cases par : j % 2 = 0
    · rw [show 2 * (j / 2) = j by omega] at e1; exact e1
    · rw [show 2 * (j / 2) + 1 = j by omega] at e2; exact e2
  apply ByteArray.ext
  apply Array.ext
  · simp [strOfNums, hlen]
  · intro j h1 h2
    have hj : j < s.size := h2
    have h3 := hat j hj
    have hj' : j < (encL (bytesS s)).length := by omega
    rw [List.getD_eq_getElem?_getD, List.getElem?_eq_getElem hj', Option.getD_some] at h3
    simp only [strOfNums, List.getElem_toArray, List.getElem_map]
    rw [h3]
    have h4 := bt_at s j (by simpa using hj)
    simp only [Int.toNat_natCast] at h4
    rw [← h4]
    have : s.data[j] = s[j] := rfl
    rw [this]
    simp

/-! ### the reference's reading -/
theorem refdec_go (s : ByteArray) (hs : s.size ≤ 2000) (d : Nat) : ∀ (k i : Nat), 2 * i ≤ s.size → s.size - i = d → d + 60 < k → (∀ j : Nat, j < 2 * i → 0 ≤ dgI (bt s j)) →
    incognitoref01_Decode.l0 k s ((List.range i).map (full s)) ((2 * i : Nat) : Int) = some (if s.size % 2 = 0 ∧ ∀ j : Nat, j < s.size → 0 ≤ dgI (bt s j) then (bytesS s, true) else ([], false)) := by
  induction d with
  | zero =>
    intro k i h0 h1 hk hall
    obtain ⟨k, rfl⟩ : ∃ m, k = m + 1 := ⟨k - 1, by omega⟩
    have hz : s.size = 0 := by omega
    simp only [incognitoref01_Decode.l0]
    rw [if_neg (by omega), if_pos ⟨by omega, fun j hj => by omega⟩, bytesS, show s.size / 2 = i by omega]
  | succ d ih =>
    intro k i h0 h1 hk hall
    obtain ⟨k, rfl⟩ : ∃ m, k = m + 1 := ⟨k - 1, by omega⟩
    simp only [incognitoref01_Decode.l0]
    by_cases c1 : 2 * i < s.size
    · rw [if_pos (by omega), w64 (by omega) (by omega)]
      by_cases c2 : 2 * i + 1 = s.size
      · rw [if_pos (by omega), if_neg (fun h => by omega)]
      · rw [if_neg (by omega), if_pos (by omega)]
        have r1 := bt_range s ((2 * i : Nat) : Int)
        have r2 := bt_range s (((2 * i : Nat) : Int) + 1)
        rw [refdigit_ev _ r1.1 r1.2 k (by omega)]
        simp only [Option.bind_some]
        rw [if_pos (by omega), if_pos (by omega), refdigit_ev _ r2.1 r2.2 k (by omega)]
        simp only [Option.bind_some]
        have e1 : (((2 * i : Nat) : Int) + 1) = ((2 * i + 1 : Nat) : Int) := by omega
        rw [e1]
        by_cases d1 : dgI (bt s (2 * i : Nat)) < 0
        · rw [if_pos d1, if_neg (fun h => by have := h.2 (2 * i) c1; omega)]
        · rw [if_neg d1]
          by_cases d2 : dgI (bt s (2 * i + 1 : Nat)) < 0
          · rw [if_pos d2, if_neg (fun h => by have := h.2 (2 * i + 1) (by omega); omega)]
          · have b1 := (dgI_bd (bt s (2 * i : Nat))).2
            have b2 := (dgI_bd (bt s (2 * i + 1 : Nat))).2
            rw [if_neg d2, if_pos (by simp; omega), w64 (x := 16 * _) (by omega) (by omega), w64 (by omega) (by omega), w64 (by omega) (by omega)]
            have e2 : (16 * dgI (bt s (2 * i : Nat)) + dgI (bt s (2 * i + 1 : Nat))) % 256 = full s i := by unfold full; omega
            rw [e2, show (List.range i).map (full s) ++ [full s i] = (List.range (i + 1)).map (full s) by rw [List.range_succ, List.map_append]; rfl,
              show ((2 * i : Nat) : Int) + 2 = ((2 * (i + 1) : Nat) : Int) by omega]
            refine ih k (i + 1) (by omega) (by omega) (by omega) fun j hj => ?_
            by_cases f1 : j < 2 * i
            · exact hall j f1
            · by_cases f2 : j = 2 * i
              · rw [f2]; omega
              · rw [show j = 2 * i + 1 by omega]; omega
    · have hz : s.size = 2 * i := by omega
      rw [if_neg (by omega), if_pos ⟨by omega, fun j hj => hall j (by omega)⟩, bytesS, show s.size / 2 = i by omega]
theorem refdec_ev (s : ByteArray) (hs : s.size ≤ 2000) : ∀ k, s.size + 60 < k → incognitoref01_Decode.f k s = some (if s.size % 2 = 0 ∧ ∀ j : Nat, j < s.size → 0 ≤ dgI (bt s j) then (bytesS s, true) else ([], false)) := by
  intro k hk
  exact refdec_go s hs s.size k 0 (by omega) (by omega) (by omega) (fun j hj => by omega)
end Go.Proofs.Ytalghfnjelcpnaa.HexL
