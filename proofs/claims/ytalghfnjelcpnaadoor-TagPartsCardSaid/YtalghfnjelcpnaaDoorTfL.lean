/- The plain laws of frames: what the printed functions come to, in lists and numbers; no program, no memory. -/
import Derived.Test.YtalghfnjelcpnaaDoorTf
namespace Go.Proofs.YtalghfnjelcpnaaDoor.TfL
open Go.RowKit Go.Proofs.YtalghfnjelcpnaaDoor Go.Proofs.YtalghfnjelcpnaaDoor.Tf Go.Proofs.YtalghfnjelcpnaaDoorW.PrintWords Go.Proofs.YtalghfnjelcpnaaDoorW.PrintLast Go.Proofs.YtalghfnjelcpnaaDoorW.PrintMore

theorem w64 {x : Int} (h0 : -9223372036854775808 ≤ x) (h1 : x ≤ 9223372036854775807) : wrap64 x = x := by unfold wrap64; omega
theorem wu64 {x : Int} (h0 : 0 ≤ x) (h1 : x < 18446744073709551616) : IntKind.u64.wrap x = x := IntWalk.u64_in _ (by omega)

/-- Bytes. -/
def Bytes (l : List Int) : Prop := ∀ x ∈ l, 0 ≤ x ∧ x ≤ 255
theorem bytes_of_wf {l : List Int} (h : ∀ x ∈ l, (Lit.int .u8 x).wf = true) : Bytes l := by
  intro x hx
  have := bounds_u8 (h x hx)
  omega
theorem bytes_rd {l : List Int} (h : Bytes l) (i : Int) : 0 ≤ rd l i ∧ rd l i ≤ 255 := by
  unfold rd
  rcases Nat.lt_or_ge i.toNat l.length with hi | hi
  · rw [List.getD_eq_getElem?_getD, List.getElem?_eq_getElem hi]
    exact h _ (List.getElem_mem hi)
  · rw [List.getD_eq_getElem?_getD, List.getElem?_eq_none hi]
    exact ⟨by decide, by decide⟩

/-! ### Same -/
theorem same_go (a b : List Int) (hl : a.length = b.length) (hm : (a.length : Int) ≤ 9223372036854775800) (d : Nat) : ∀ (k i : Nat), i ≤ a.length → a.length - i = d → d < k →
    incognitoref01_Same.l0 k a b (i : Int) = some (decide (a.drop i = b.drop i)) := by
  induction d with
  | zero =>
    intro k i h0 h1 hk
    obtain ⟨k, rfl⟩ : ∃ m, k = m + 1 := ⟨k - 1, by omega⟩
    simp only [incognitoref01_Same.l0]
    rw [if_neg (by omega), List.drop_eq_nil_of_le (by omega), List.drop_eq_nil_of_le (by omega)]
    simp
  | succ d ih =>
    intro k i h0 h1 hk
    obtain ⟨k, rfl⟩ : ∃ m, k = m + 1 := ⟨k - 1, by omega⟩
    simp only [incognitoref01_Same.l0]
    have hi : i < a.length := by omega
    have hi' : i < b.length := by omega
    rw [if_pos (by omega), if_pos (by omega), if_pos (by omega)]
    have ea : rd a (i : Int) = a[i] := by unfold rd; simp [List.getD_eq_getElem?_getD, hi]
    have eb : rd b (i : Int) = b[i] := by unfold rd; simp [List.getD_eq_getElem?_getD, hi']
    rw [ea, eb, List.drop_eq_getElem_cons hi, List.drop_eq_getElem_cons hi']
    by_cases e : a[i] = b[i]
    · rw [if_pos e, w64 (by omega) (by omega), show (i : Int) + 1 = ((i + 1 : Nat) : Int) by omega, ih k (i + 1) (by omega) (by omega) (by omega), e]
      simp only [List.cons.injEq, true_and]
    · rw [if_neg e]
      simp only [List.cons.injEq, e, false_and, decide_false]
theorem same_ev (a b : List Int) (hm : (a.length : Int) ≤ 9223372036854775800) : ∀ k, a.length < k → incognitoref01_Same.f k a b = some (decide (a = b)) := by
  intro k hk
  unfold incognitoref01_Same.f
  by_cases e : a.length = b.length
  · rw [if_pos (by omega)]
    have := same_go a b e hm a.length k 0 (by omega) (by omega) hk
    simpa using this
  · rw [if_neg (by omega)]
    have : a ≠ b := fun h => e (by rw [h])
    simp [this]

/-! ### Big -/
def bigL (n : Int) : Nat → List Int
  | 0 => []
  | t + 1 => (n / 256 ^ t) % 256 :: bigL n t
theorem bigL_length (n : Int) (t : Nat) : (bigL n t).length = t := by induction t with
  | zero => rfl
  | succ t ih => simp [bigL, ih]
theorem set_rep (m : Nat) (v : Int) (r : List Int) : (List.replicate (m + 1) 0 ++ r).set m v = List.replicate m 0 ++ v :: r := by
  rw [List.replicate_succ', List.append_assoc, List.set_append_right _ _ (by simp)]
  simp
theorem div_pow_succ (n : Int) (t : Nat) : n / 256 ^ t / 256 = n / 256 ^ (t + 1) := by
  rw [Int.ediv_ediv_of_nonneg (Int.pow_nonneg (by decide)), ← Int.pow_succ]
theorem big_go (n : Int) (m : Nat) (hm : m ≤ 8) (d : Nat) : ∀ (k t : Nat), t ≤ m → m - t = d → d < k →
    hex_Big.l0 k (n / 256 ^ t) (List.replicate (m - t) 0 ++ bigL n t) ((m : Int) - t - 1) = some (bigL n m) := by
  induction d with
  | zero =>
    intro k t h0 h1 hk
    obtain ⟨k, rfl⟩ : ∃ m, k = m + 1 := ⟨k - 1, by omega⟩
    obtain rfl : t = m := by omega
    simp only [hex_Big.l0]
    rw [if_neg (by omega)]
    simp
  | succ d ih =>
    intro k t h0 h1 hk
    obtain ⟨k, rfl⟩ : ∃ m, k = m + 1 := ⟨k - 1, by omega⟩
    simp only [hex_Big.l0]
    rw [if_pos (by omega), if_pos (by omega), if_pos (by simp only [List.length_append, List.length_replicate, bigL_length]; omega), w64 (by omega) (by omega), div_pow_succ,
      show ((m : Int) - t - 1).toNat = m - (t + 1) by omega, show m - t = m - (t + 1) + 1 by omega, set_rep]
    have := ih k (t + 1) (by omega) (by omega) (by omega)
    rw [show (m : Int) - t - 1 - 1 = (m : Int) - ((t + 1 : Nat) : Int) - 1 by omega]
    exact this
theorem big_ev (n : Int) (s : Int) (h0 : -9223372036854775808 ≤ s) : ∀ k, 9 < k → hex_Big.f k n s = some (bigL n (min s.toNat 8)) := by
  intro k hk
  unfold hex_Big.f
  by_cases c : s < 1
  · rw [if_pos c, show s.toNat = 0 by omega]; rfl
  · rw [if_neg c]
    have e : mn s 8 = ((min s.toNat 8 : Nat) : Int) := by unfold mn; split <;> omega
    rw [e, if_pos (by omega), if_pos (by omega)]
    simp only [Option.bind_some, Int.toNat_natCast, List.length_replicate]
    rw [w64 (by omega) (by omega)]
    have := big_go n (min s.toNat 8) (by omega) (min s.toNat 8) k 0 (by omega) (by omega) (by omega)
    simpa [bigL] using this
def numL (l : List Int) : Int := l.foldl (fun n c => n * 256 + c) 0
theorem numL_snoc (l : List Int) (c : Int) : numL (l ++ [c]) = numL l * 256 + c := by simp [numL]
theorem bytes_snoc {l : List Int} {c : Int} (h : Bytes (l ++ [c])) : Bytes l ∧ 0 ≤ c ∧ c ≤ 255 := ⟨fun x hx => h x (by simp [hx]), h c (by simp)⟩
theorem numL_bd : ∀ (t : Nat) (l : List Int), l.length = t → Bytes l → 0 ≤ numL l ∧ numL l < 256 ^ t := by
  intro t
  induction t with
  | zero => intro l hl _; rw [List.length_eq_zero_iff.1 hl]; decide
  | succ t ih =>
    intro l hl hb
    rcases List.eq_nil_or_concat l with rfl | ⟨a, c, rfl⟩
    · simp at hl
    · rw [List.concat_eq_append] at hb hl ⊢
      obtain ⟨h1, h2, h3⟩ := bytes_snoc hb
      obtain ⟨h4, h5⟩ := ih a (by simpa using hl) h1
      rw [numL_snoc, Int.pow_succ]
      omega
theorem bigL_bytes (n : Int) (t : Nat) : Bytes (bigL n t) := by
  induction t with
  | zero => intro x hx; cases hx
  | succ t ih =>
    intro x hx
    rcases List.mem_cons.1 hx with rfl | hx
    · omega
    · exact ih x hx
theorem bigL_snoc (n : Int) (t : Nat) : bigL n (t + 1) = bigL (n / 256) t ++ [n % 256] := by
  induction t with
  | zero => simp [bigL]
  | succ t ih =>
    rw [bigL, ih, bigL]
    simp only [List.cons_append]
    rw [Int.ediv_ediv_of_nonneg (by decide), ← Int.pow_succ']
theorem num_big : ∀ (t : Nat) (n : Int), 0 ≤ n → n < 256 ^ t → numL (bigL n t) = n := by
  intro t
  induction t with
  | zero => intro n h0 h1; simp [bigL, numL] at *; omega
  | succ t ih =>
    intro n h0 h1
    rw [Int.pow_succ] at h1
    rw [bigL_snoc, numL_snoc, ih (n / 256) (by omega) (by omega)]
    omega
theorem rd_at (l : List Int) (i : Nat) (h : i < l.length) : rd l (i : Int) = l[i] := by unfold rd; simp [List.getD_eq_getElem?_getD, h]
theorem refbig_go (n : Int) (h0 : 0 ≤ n) (h1 : n < 18446744073709551616) (s : Int) (hs : s ≤ 9223372036854775807) (d : Nat) : ∀ (k t : Nat), t ≤ min s.toNat 8 → min s.toNat 8 - t = d → d < k →
    incognitoref01_Big.l0 k (n / 256 ^ t) s (bigL n t) (t : Int) = some (bigL n (min s.toNat 8)) := by
  induction d with
  | zero =>
    intro k t h0 h1 hk
    obtain ⟨k, rfl⟩ : ∃ m, k = m + 1 := ⟨k - 1, by omega⟩
    simp only [incognitoref01_Big.l0]
    by_cases c : (t : Int) < s
    · rw [if_pos c, if_neg (by omega), show min s.toNat 8 = t by omega]
    · rw [if_neg c, show min s.toNat 8 = t by omega]
  | succ d ih =>
    intro k t h2 h3 hk
    obtain ⟨k, rfl⟩ : ∃ m, k = m + 1 := ⟨k - 1, by omega⟩
    have hp : (0 : Int) < 256 ^ t := Int.pow_pos (by decide)
    have hq : 0 ≤ n / 256 ^ t := Int.ediv_nonneg h0 (by omega)
    have hq2 : n / 256 ^ t ≤ n := Int.ediv_le_self _ h0
    simp only [incognitoref01_Big.l0]
    rw [if_pos (by omega), if_pos (by omega)]
    simp only [Option.bind_some]
    rw [if_pos (by simp only [List.length_cons, List.length_nil, bigL_length]; omega), Int.tdiv_eq_ediv_of_nonneg hq, Int.tmod_eq_emod_of_nonneg hq, Int.emod_emod_of_dvd _ (Int.dvd_refl _), wu64 (by omega) (by omega), w64 (by omega) (by omega), div_pow_succ]
    exact ih k (t + 1) (by omega) (by omega) (by omega)
theorem refbig_ev (n : Int) (h0 : 0 ≤ n) (h1 : n < 18446744073709551616) (s : Int) (hs : s ≤ 9223372036854775807) : ∀ k, 9 < k → incognitoref01_Big.f k n s = some (bigL n (min s.toNat 8)) := by
  intro k hk
  have := refbig_go n h0 h1 s hs (min s.toNat 8) k 0 (by omega) (by omega) (by omega)
  simpa [incognitoref01_Big.f, bigL] using this

/-! ### Num -/
theorem or_add (a c : Int) (h0 : 0 ≤ a) (h1 : a * 256 < 18446744073709551616) (h2 : 0 ≤ c) (h3 : c ≤ 255) : Go.bits .or .u64 (IntKind.u64.wrap (a * 256)) (IntKind.u64.wrap c) = a * 256 + c := by
  rw [wu64 (by omega) h1, wu64 h2 (by omega), u64_or _ _ (by omega) h1 h2 (by omega), nat_join 8 _ _ (by omega) (by omega)]
  omega
theorem pow_le8 (t : Nat) (h : t ≤ 7) : (256 : Int) ^ t * 256 ≤ 18446744073709551616 := by
  rcases (by omega : t = 0 ∨ t = 1 ∨ t = 2 ∨ t = 3 ∨ t = 4 ∨ t = 5 ∨ t = 6 ∨ t = 7) with rfl | rfl | rfl | rfl | rfl | rfl | rfl | rfl <;> decide
theorem num_go (l : List Int) (hb : Bytes l) (hl : l.length ≤ 8) (d : Nat) : ∀ (k i : Nat), i ≤ l.length → l.length - i = d → d < k →
    hex_Num.l0 k (numL (l.take i)) l (l.length : Int) (i : Int) = some (numL l, true) := by
  induction d with
  | zero =>
    intro k i h0 h1 hk
    obtain ⟨k, rfl⟩ : ∃ m, k = m + 1 := ⟨k - 1, by omega⟩
    simp only [hex_Num.l0]
    rw [if_neg (by omega), List.take_of_length_le (by omega)]
  | succ d ih =>
    intro k i h0 h1 hk
    obtain ⟨k, rfl⟩ : ∃ m, k = m + 1 := ⟨k - 1, by omega⟩
    have hi : i < l.length := by omega
    simp only [hex_Num.l0]
    obtain ⟨b0, b1⟩ := hb _ (List.getElem_mem hi)
    have hbt : Bytes (l.take i) := fun x hx => hb x (List.mem_of_mem_take hx)
    obtain ⟨n0, n1⟩ := numL_bd i (l.take i) (by simp; omega) hbt
    have p8 := pow_le8 i (by omega)
    rw [if_pos (by omega), if_pos (by omega), if_pos (by omega), rd_at l i hi, or_add _ _ n0 (by omega) b0 b1, ← numL_snoc, ← List.take_succ_eq_append_getElem hi, w64 (by omega) (by omega), show (i : Int) + 1 = ((i + 1 : Nat) : Int) by omega]
    exact ih k (i + 1) (by omega) (by omega) (by omega)
theorem num_ev (l : List Int) (hb : Bytes l) (hl : l.length ≤ 8) : ∀ k, l.length < k → hex_Num.f k l = some (numL l, true) := by
  intro k hk
  unfold hex_Num.f
  rw [if_neg (by omega)]
  exact num_go l hb hl l.length k 0 (by omega) (by omega) hk
theorem big_num : ∀ (t : Nat) (l : List Int), l.length = t → Bytes l → bigL (numL l) t = l := by
  intro t
  induction t with
  | zero => intro l hl _; rw [List.length_eq_zero_iff.1 hl]; rfl
  | succ t ih =>
    intro l hl hb
    rcases List.eq_nil_or_concat l with rfl | ⟨a, c, rfl⟩
    · simp at hl
    · rw [List.concat_eq_append] at hb hl ⊢
      obtain ⟨h1, h2, h3⟩ := bytes_snoc hb
      rw [bigL_snoc, numL_snoc, show (numL a * 256 + c) / 256 = numL a by omega, show (numL a * 256 + c) % 256 = c by omega, ih a (by simpa using hl) h1]
/-! ### Frames -/
/-- The frame of parts. -/
def fr (l : List (List Int)) : List Int := l.flatMap fun p => bigL p.length 8 ++ p
theorem fr_nil : fr [] = [] := rfl
theorem fr_cons (p : List Int) (l : List (List Int)) : fr (p :: l) = (bigL p.length 8 ++ p) ++ fr l := by simp [fr]
theorem fr_snoc (l : List (List Int)) (p : List Int) : fr (l ++ [p]) = fr l ++ (bigL p.length 8 ++ p) := by simp [fr]
theorem fr_take (l : List (List Int)) (i : Nat) (h : i < l.length) : fr (l.take (i + 1)) = fr (l.take i) ++ (bigL l[i].length 8 ++ l[i]) := by
  rw [List.take_succ_eq_append_getElem h, fr_snoc]
theorem fr_len (l : List (List Int)) (h : ∀ p ∈ l, p.length ≤ 1000) : (fr l).length ≤ 1008 * l.length := by
  induction l with
  | nil => simp [fr_nil]
  | cons p l ih =>
    have h1 := ih (fun q hq => h q (List.mem_cons_of_mem _ hq))
    have h2 := h p List.mem_cons_self
    rw [fr_cons]
    simp only [List.length_append, bigL_length, List.length_cons]
    omega
theorem rd_L (l : List (List Int)) (i : Nat) (h : i < l.length) : rd_L1 l (i : Int) = l[i] := by unfold rd_L1; simp [List.getD_eq_getElem?_getD, h]
theorem great_go (l : List (List Int)) (hm : (l.length : Int) ≤ 9223372036854775807) (d : Nat) : ∀ (k i : Nat), i ≤ l.length → l.length - i = d → d < k → (∀ j (h : j < l.length), j < i → l[j].length ≤ 200) →
    incognitolaw05_great.l0 k l l l.length i = some true ∨ (incognitolaw05_great.l0 k l l l.length i = some false ∧ (∀ p ∈ l, p.length ≤ 200) ∧ l.length ≤ 20) := by
  induction d with
  | zero =>
    intro k i h0 h1 hk hs
    obtain ⟨k, rfl⟩ : ∃ m, k = m + 1 := ⟨k - 1, by omega⟩
    simp only [incognitolaw05_great.l0]
    rw [if_neg (by omega)]
    by_cases c : l.length ≤ 20
    · right
      refine ⟨by simp; omega, fun p hp => ?_, c⟩
      obtain ⟨j, hj, rfl⟩ := List.mem_iff_getElem.1 hp
      exact hs j hj (by omega)
    · left; simp; omega
  | succ d ih =>
    intro k i h0 h1 hk hs
    obtain ⟨k, rfl⟩ : ∃ m, k = m + 1 := ⟨k - 1, by omega⟩
    simp only [incognitolaw05_great.l0]
    have hi : i < l.length := by omega
    rw [if_pos (by omega), if_pos (by omega), if_pos (by omega), rd_L l i hi]
    by_cases c : (l[i].length : Int) > 200
    · left; rw [if_pos c]
    · rw [if_neg c, w64 (by omega) (by omega), show (i : Int) + 1 = ((i + 1 : Nat) : Int) by omega]
      refine ih k (i + 1) (by omega) (by omega) (by omega) (fun j hj hji => ?_)
      rcases Nat.lt_or_ge j i with h2 | h2
      · exact hs j hj h2
      · obtain rfl : j = i := by omega
        omega
theorem great_ev (l : List (List Int)) (hm : (l.length : Int) ≤ 9223372036854775807) (k : Nat) (hk : l.length < k) :
    incognitolaw05_great.f k l = some true ∨ (incognitolaw05_great.f k l = some false ∧ (∀ p ∈ l, p.length ≤ 200) ∧ l.length ≤ 20) := by
  unfold incognitolaw05_great.f
  exact great_go l hm l.length k 0 (by omega) (by omega) hk (fun j _ h => by omega)
theorem frame_go (l : List (List Int)) (h : ∀ p ∈ l, p.length ≤ 1000) (hl : l.length ≤ 600) (d : Nat) : ∀ (k i : Nat), i ≤ l.length → l.length - i = d → d + 10 < k →
    tag_Frame.l0 k (fr (l.take i)) l l.length i = some (fr l) := by
  induction d with
  | zero =>
    intro k i h0 h1 hk
    obtain ⟨k, rfl⟩ : ∃ m, k = m + 1 := ⟨k - 1, by omega⟩
    simp only [tag_Frame.l0]
    rw [if_neg (by omega), List.take_of_length_le (by omega)]
  | succ d ih =>
    intro k i h0 h1 hk
    obtain ⟨k, rfl⟩ : ∃ m, k = m + 1 := ⟨k - 1, by omega⟩
    simp only [tag_Frame.l0]
    have hi : i < l.length := by omega
    have hp : l[i].length ≤ 1000 := h _ (List.getElem_mem hi)
    have hf : (fr (l.take i)).length ≤ 1008 * i := by
      have := fr_len (l.take i) (fun p hp => h p (List.mem_of_mem_take hp))
      rw [List.length_take, Nat.min_eq_left h0] at this
      exact this
    rw [if_pos (by omega), if_pos (by omega), if_pos (by omega), rd_L l i hi, wu64 (by omega) (by omega), big_ev _ 8 (by omega) k (by omega)]
    simp only [Option.bind_some]
    rw [show min (8 : Int).toNat 8 = 8 from rfl, if_pos (by rw [bigL_length]; omega), if_pos (by rw [List.length_append, bigL_length]; omega), w64 (by omega) (by omega), show (i : Int) + 1 = ((i + 1 : Nat) : Int) by omega, List.append_assoc, ← fr_take l i hi]
    exact ih k (i + 1) (by omega) (by omega) (by omega)
theorem frame_ev (l : List (List Int)) (h : ∀ p ∈ l, p.length ≤ 1000) (hl : l.length ≤ 600) (k : Nat) (hk : l.length + 10 < k) : tag_Frame.f k l = some (fr l) := by
  unfold tag_Frame.f
  exact frame_go l h hl l.length k 0 (by omega) (by omega) hk
theorem refsame_go (a b : List (List Int)) (hl : a.length = b.length) (hm : (a.length : Int) ≤ 9223372036854775800) (ha : ∀ p ∈ a, p.length ≤ 1000) (d : Nat) : ∀ (k i : Nat), i ≤ a.length → a.length - i = d → d + 1001 < k →
    incognitoref05_Same.l0 k a b (i : Int) = some (decide (a.drop i = b.drop i)) := by
  induction d with
  | zero =>
    intro k i h0 h1 hk
    obtain ⟨k, rfl⟩ : ∃ m, k = m + 1 := ⟨k - 1, by omega⟩
    simp only [incognitoref05_Same.l0]
    rw [if_neg (by omega), List.drop_eq_nil_of_le (by omega), List.drop_eq_nil_of_le (by omega)]
    simp
  | succ d ih =>
    intro k i h0 h1 hk
    obtain ⟨k, rfl⟩ : ∃ m, k = m + 1 := ⟨k - 1, by omega⟩
    simp only [incognitoref05_Same.l0]
    have hi : i < a.length := by omega
    have hi' : i < b.length := by omega
    have hp : a[i].length ≤ 1000 := ha _ (List.getElem_mem hi)
    rw [if_pos (by omega), if_pos (by omega), if_pos (by omega), rd_L a i hi, rd_L b i hi', same_ev _ _ (by omega) k (by omega)]
    simp only [Option.bind_some]
    rw [List.drop_eq_getElem_cons hi, List.drop_eq_getElem_cons hi']
    by_cases e : a[i] = b[i]
    · rw [if_pos (by simpa using e), w64 (by omega) (by omega), show (i : Int) + 1 = ((i + 1 : Nat) : Int) by omega, ih k (i + 1) (by omega) (by omega) (by omega), e]
      simp only [List.cons.injEq, true_and]
    · rw [if_neg (by simpa using e)]
      simp only [List.cons.injEq, e, false_and, decide_false]
theorem refsame_ev (a b : List (List Int)) (hm : (a.length : Int) ≤ 9223372036854775800) (ha : ∀ p ∈ a, p.length ≤ 1000) (k : Nat) (hk : a.length + 1001 < k) : incognitoref05_Same.f k a b = some (decide (a = b)) := by
  unfold incognitoref05_Same.f
  by_cases e : a.length = b.length
  · rw [if_pos (by omega)]
    have := refsame_go a b e hm ha a.length k 0 (by omega) (by omega) hk
    simpa using this
  · rw [if_neg (by omega)]
    have : a ≠ b := fun h => e (by rw [h])
    simp [this]
theorem fr_inj : ∀ a b : List (List Int), (∀ p ∈ a, p.length ≤ 1000) → (∀ p ∈ b, p.length ≤ 1000) → fr a = fr b → a = b
  | [], [], _, _, _ => rfl
  | [], q :: b, _, _, h => by
    have := congrArg List.length h
    rw [fr_cons, fr_nil] at this
    simp only [List.length_append, bigL_length, List.length_nil] at this
    omega
  | p :: a, [], _, _, h => by
    have := congrArg List.length h
    rw [fr_cons, fr_nil] at this
    simp only [List.length_append, bigL_length, List.length_nil] at this
    omega
  | p :: a, q :: b, ha, hb, h => by
    have hp := ha p List.mem_cons_self
    have hq := hb q List.mem_cons_self
    rw [fr_cons, fr_cons, List.append_assoc, List.append_assoc] at h
    obtain ⟨h1, h2⟩ := List.append_inj h (by rw [bigL_length, bigL_length])
    have h3 : (p.length : Int) = q.length := by
      have e1 := num_big 8 (p.length : Int) (by omega) (by omega)
      have e2 := num_big 8 (q.length : Int) (by omega) (by omega)
      rw [← e1, ← e2, h1]
    obtain ⟨h4, h5⟩ := List.append_inj h2 (by omega)
    rw [h4, fr_inj a b (fun r hr => ha r (List.mem_cons_of_mem _ hr)) (fun r hr => hb r (List.mem_cons_of_mem _ hr)) h5]
/-! ### Parts -/
theorem bytes_take {l : List Int} (h : Bytes l) (i : Nat) : Bytes (l.take i) := fun x hx => h x (List.mem_of_mem_take hx)
theorem bytes_drop {l : List Int} (h : Bytes l) (i : Nat) : Bytes (l.drop i) := fun x hx => h x (List.mem_of_mem_drop hx)
theorem bytes_app {a b : List Int} (h : Bytes a) (k : Bytes b) : Bytes (a ++ b) := fun x hx => by
  rcases List.mem_append.1 hx with h1 | h1
  · exact h x h1
  · exact k x h1
theorem fr_bytes (l : List (List Int)) (h : ∀ p ∈ l, Bytes p) : Bytes (fr l) := by
  induction l with
  | nil => intro x hx; cases hx
  | cons p l ih =>
    rw [fr_cons]
    exact bytes_app (bytes_app (bigL_bytes _ _) (h p List.mem_cons_self)) (ih (fun q hq => h q (List.mem_cons_of_mem _ hq)))
theorem fr_ge (s : List (List Int)) : s.length ≤ (fr s).length ∧ ∀ p ∈ s, p.length ≤ (fr s).length := by
  induction s with
  | nil => exact ⟨Nat.le_refl _, fun p hp => by cases hp⟩
  | cons q s ih =>
    rw [fr_cons]
    simp only [List.length_append, bigL_length, List.length_cons]
    refine ⟨by omega, fun p hp => ?_⟩
    rcases List.mem_cons.1 hp with rfl | h
    · omega
    · have := ih.2 p h; omega
/-- The parts that a frame is of. -/
def pt : Nat → List Int → List (List Int) → Option (List (List Int))
  | 0, _, _ => none
  | k + 1, b, o => if b.length = 0 then some o else if b.length < 8 then none else if ((b.length : Int) - 8) < numL (b.take 8) then none else
    pt k ((b.drop 8).drop (numL (b.take 8)).toNat) (o ++ [(b.drop 8).take (numL (b.take 8)).toNat])
def res : Option (List (List Int)) → List (List Int) × Int
  | some r => (r, 0)
  | none => ([], 2)
def resR : Option (List (List Int)) → List (List Int) × Bool
  | some r => (r, true)
  | none => ([], false)
theorem parts_go (n : Nat) : ∀ (b : List Int) (o : List (List Int)) (k : Nat), b.length ≤ n → n ≤ 1000000 → Bytes b → o.length + n ≤ 2000000 → n + 12 < k →
    tag_Parts.l0 k b o false = some (res (pt (n + 1) b o)) := by
  induction n with
  | zero =>
    intro b o k h0 _ _ _ hk
    obtain ⟨k, rfl⟩ : ∃ m, k = m + 1 := ⟨k - 1, by omega⟩
    simp only [tag_Parts.l0, pt]
    rw [if_pos (by omega), if_pos (by omega)]
    rfl
  | succ n ih =>
    intro b o k h0 h1 hb ho hk
    obtain ⟨k, rfl⟩ : ∃ m, k = m + 1 := ⟨k - 1, by omega⟩
    simp only [tag_Parts.l0]
    rw [pt]
    by_cases c0 : b.length = 0
    · rw [if_pos (by omega), if_pos c0]; rfl
    rw [if_neg (by omega), if_neg c0]
    by_cases c1 : b.length < 8
    · rw [if_pos (by omega), if_pos c1]; rfl
    rw [if_neg (by omega), if_neg c1, if_pos (by omega), num_ev _ (bytes_take hb 8) (by rw [List.length_take]; omega) k (by rw [List.length_take]; omega)]
    simp only [Option.bind_some]
    have hn := numL_bd 8 (b.take 8) (by rw [List.length_take]; omega) (bytes_take hb 8)
    obtain ⟨N, hN⟩ : ∃ N, numL (b.take 8) = N := ⟨_, rfl⟩
    rw [hN] at hn ⊢
    have hdl : (b.drop 8).length = b.length - 8 := List.length_drop
    rw [wu64 (by omega) (by omega)]
    by_cases c2 : ((b.length : Int) - 8) < N
    · rw [if_pos (by omega), if_pos c2]; rfl
    rw [if_neg (by omega), if_neg c2, if_pos (by omega), if_pos (by omega)]
    have hcl : bytes_Clone.f ((b.drop 8).take N.toNat) = some ((b.drop 8).take N.toNat) := by
      unfold bytes_Clone.f
      rw [if_pos (by rw [List.length_take]; omega)]
    rw [hcl]
    simp only [Option.bind_some]
    rw [if_pos (by omega)]
    refine ih _ _ k (by rw [List.length_drop]; omega) (by omega) (bytes_drop (bytes_drop hb 8) _) (by rw [List.length_append]; simp; omega) (by omega)
theorem parts_ev (b : List Int) (hl : b.length ≤ 1000000) (hb : Bytes b) (k : Nat) (hk : b.length + 12 < k) : tag_Parts.f k b = some (res (pt (b.length + 1) b [])) := by
  unfold tag_Parts.f
  exact parts_go b.length b [] k (Nat.le_refl _) hl hb (by simp; omega) hk
theorem pt_fr : ∀ (l : List (List Int)) (o : List (List Int)) (k : Nat), (∀ p ∈ l, p.length ≤ 1000) → l.length < k → pt k (fr l) o = some (o ++ l)
  | [], o, k, _, hk => by
    obtain ⟨k, rfl⟩ : ∃ m, k = m + 1 := ⟨k - 1, by omega⟩
    rw [fr_nil, pt, if_pos List.length_nil, List.append_nil]
  | p :: l, o, k, h, hk => by
    obtain ⟨k, rfl⟩ : ∃ m, k = m + 1 := ⟨k - 1, by omega⟩
    have hp := h p List.mem_cons_self
    rw [fr_cons, pt, if_neg (by simp only [List.length_append, bigL_length]; omega), if_neg (by simp only [List.length_append, bigL_length]; omega)]
    have e1 : ((bigL p.length 8 ++ p) ++ fr l).take 8 = bigL p.length 8 := by
      rw [List.append_assoc]; exact List.take_left' (bigL_length _ _)
    have e2 : ((bigL p.length 8 ++ p) ++ fr l).drop 8 = p ++ fr l := by
      rw [List.append_assoc]; exact List.drop_left' (bigL_length _ _)
    rw [e1, e2, num_big 8 (p.length : Int) (by omega) (by omega), if_neg (by simp only [List.length_append, bigL_length]; omega), Int.toNat_natCast, List.take_left' rfl, List.drop_left' rfl,
      pt_fr l _ k (fun q hq => h q (List.mem_cons_of_mem _ hq)) (by simp at hk; omega), List.append_assoc]
    rfl
theorem pt_sound : ∀ (k : Nat) (b : List Int) (o r : List (List Int)), Bytes b → pt k b o = some r → ∃ s, r = o ++ s ∧ fr s = b
  | 0, _, _, _, _, h => by cases h
  | k + 1, b, o, r, hb, h => by
    rw [pt] at h
    by_cases c0 : b.length = 0
    · rw [if_pos c0] at h
      obtain rfl := Option.some.inj h
      exact ⟨[], by simp, by rw [fr_nil, List.eq_nil_of_length_eq_zero c0]⟩
    rw [if_neg c0] at h
    by_cases c1 : b.length < 8
    · rw [if_pos c1] at h; cases h
    rw [if_neg c1] at h
    by_cases c2 : ((b.length : Int) - 8) < numL (b.take 8)
    · rw [if_pos c2] at h; cases h
    rw [if_neg c2] at h
    obtain ⟨s, hs, hf⟩ := pt_sound k _ _ r (bytes_drop (bytes_drop hb 8) _) h
    have hn := numL_bd 8 (b.take 8) (by rw [List.length_take]; omega) (bytes_take hb 8)
    refine ⟨(b.drop 8).take (numL (b.take 8)).toNat :: s, by rw [hs]; simp, ?_⟩
    rw [fr_cons, hf]
    have e : (((b.drop 8).take (numL (b.take 8)).toNat).length : Int) = numL (b.take 8) := by
      rw [List.length_take, List.length_drop]; omega
    rw [e, big_num 8 (b.take 8) (by rw [List.length_take]; omega) (bytes_take hb 8), List.append_assoc, List.take_append_drop, List.take_append_drop]
theorem numL_take_mono (l : List Int) (hb : Bytes l) (d : Nat) : ∀ i, i ≤ l.length → l.length - i = d → numL (l.take i) ≤ numL l := by
  induction d with
  | zero =>
    intro i h0 h1
    rw [List.take_of_length_le (by omega)]
    exact Int.le_refl _
  | succ d ih =>
    intro i h0 h1
    have h2 := ih (i + 1) (by omega) (by omega)
    have hi : i < l.length := by omega
    rw [List.take_succ_eq_append_getElem hi, numL_snoc] at h2
    have h3 := (numL_bd i (l.take i) (by rw [List.length_take]; omega) (bytes_take hb i)).1
    have h4 := hb l[i] (List.getElem_mem hi)
    omega
theorem refframe_go (l : List (List Int)) (h : ∀ p ∈ l, p.length ≤ 1000) (hl : l.length ≤ 600) (d : Nat) : ∀ (k i : Nat), i ≤ l.length → l.length - i = d → d + 10 < k →
    incognitoref05_Frame.l0 k l (fr (l.take i)) i = some (fr l) := by
  induction d with
  | zero =>
    intro k i h0 h1 hk
    obtain ⟨k, rfl⟩ : ∃ m, k = m + 1 := ⟨k - 1, by omega⟩
    simp only [incognitoref05_Frame.l0]
    rw [if_neg (by omega), List.take_of_length_le (by omega)]
  | succ d ih =>
    intro k i h0 h1 hk
    obtain ⟨k, rfl⟩ : ∃ m, k = m + 1 := ⟨k - 1, by omega⟩
    simp only [incognitoref05_Frame.l0]
    have hi : i < l.length := by omega
    have hp : l[i].length ≤ 1000 := h _ (List.getElem_mem hi)
    have hf : (fr (l.take i)).length ≤ 1008 * i := by
      have := fr_len (l.take i) (fun p hp => h p (List.mem_of_mem_take hp))
      rw [List.length_take, Nat.min_eq_left h0] at this
      exact this
    rw [if_pos (by omega), if_pos (by omega), rd_L l i hi, wu64 (by omega) (by omega), refbig_ev _ (by omega) (by omega) 8 (by omega) k (by omega)]
    simp only [Option.bind_some]
    rw [show min (8 : Int).toNat 8 = 8 from rfl, if_pos (by rw [bigL_length]; omega), if_pos (by rw [List.length_append, bigL_length]; omega), w64 (by omega) (by omega), show (i : Int) + 1 = ((i + 1 : Nat) : Int) by omega, List.append_assoc, ← fr_take l i hi]
    exact ih k (i + 1) (by omega) (by omega) (by omega)
theorem refframe_ev (l : List (List Int)) (h : ∀ p ∈ l, p.length ≤ 1000) (hl : l.length ≤ 600) (k : Nat) (hk : l.length + 10 < k) : incognitoref05_Frame.f k l = some (fr l) := by
  unfold incognitoref05_Frame.f
  exact refframe_go l h hl l.length k 0 (by omega) (by omega) hk
theorem rd_nat (l : List Int) (i : Nat) (h : i < l.length) : rd l (i : Int) = l[i] := by unfold rd; simp [List.getD_eq_getElem?_getD, h]
/-- The eight bytes of a length, one by one. -/
theorem refnum_go (b : List Int) (hl : b.length ≤ 1000) (hb : Bytes b) (o : List (List Int)) (at_ : Nat) (h8 : at_ + 8 ≤ b.length) (d : Nat) : ∀ (k i : Nat), i ≤ 8 → 8 - i = d →
    incognitoref05_Parts.l1 (k + d) b o at_ (numL ((b.drop at_).take i)) i = incognitoref05_Parts.l1 k b o at_ (numL ((b.drop at_).take 8)) 8 ∨
    (incognitoref05_Parts.l1 (k + d) b o at_ (numL ((b.drop at_).take i)) i = some ([], false) ∧ (b.length : Int) < numL ((b.drop at_).take 8)) := by
  have hdl : (b.drop at_).length = b.length - at_ := List.length_drop
  induction d with
  | zero =>
    intro k i h0 h1
    obtain rfl : i = 8 := by omega
    exact .inl rfl
  | succ d ih =>
    intro k i h0 h1
    have e : k + (d + 1) = (k + d) + 1 := rfl
    rw [e]
    have hi : i < (b.drop at_).length := by omega
    have hm := numL_take_mono ((b.drop at_).take 8) (bytes_take (bytes_drop hb _) 8) (8 - i) i (by rw [List.length_take]; omega) (by rw [List.length_take]; omega)
    rw [List.take_take, Nat.min_eq_left h0] at hm
    have hn := numL_bd i ((b.drop at_).take i) (by rw [List.length_take]; omega) (bytes_take (bytes_drop hb _) i)
    have e1 : incognitoref05_Parts.l1 ((k + d) + 1) b o at_ (numL ((b.drop at_).take i)) i = if numL ((b.drop at_).take i) > (b.length : Int) then some ([], false) else incognitoref05_Parts.l1 (k + d) b o at_ (numL ((b.drop at_).take (i + 1))) ((i + 1 : Nat) : Int) := by
      simp only [incognitoref05_Parts.l1]
      rw [if_pos (by omega)]
      by_cases c : numL ((b.drop at_).take i) > (b.length : Int)
      · rw [if_pos c, if_pos c]
      · have hbd := hb (b.drop at_)[i] (List.mem_of_mem_drop (List.getElem_mem hi))
        have e2 : rd b ((at_ : Int) + i) = (b.drop at_)[i] := by
          rw [show (at_ : Int) + i = ((at_ + i : Nat) : Int) by omega, rd_nat b (at_ + i) (by omega), List.getElem_drop]
        rw [if_neg c, if_neg c, w64 (x := (at_ : Int) + i) (by omega) (by omega), if_pos (by omega), if_pos (by omega),
          e2, w64 (x := (b.drop at_)[i]) (by omega) (by omega), w64 (x := numL ((b.drop at_).take i) * 256) (by omega) (by omega), w64 (x := _ + (b.drop at_)[i]) (by omega) (by omega), w64 (x := (i : Int) + 1) (by omega) (by omega), ← numL_snoc, ← List.take_succ_eq_append_getElem hi,
          show (i : Int) + 1 = ((i + 1 : Nat) : Int) by omega]
    rw [e1]
    by_cases c : numL ((b.drop at_).take i) > (b.length : Int)
    · rw [if_pos c]
      exact .inr ⟨rfl, by omega⟩
    · rw [if_neg c]
      exact ih k (i + 1) (by omega) (by omega)
theorem refparts_go (n : Nat) : ∀ (b : List Int) (o : List (List Int)) (at_ k : Nat), b.length - at_ ≤ n → at_ ≤ b.length → b.length ≤ 1000 → Bytes b → o.length + n ≤ 2000000 → 10 * n + 30 < k →
    incognitoref05_Parts.l0 k b o at_ = some (resR (pt (n + 1) (b.drop at_) o)) := by
  induction n with
  | zero =>
    intro b o at_ k h0 h1 _ _ _ hk
    obtain ⟨k, rfl⟩ : ∃ m, k = m + 1 := ⟨k - 1, by omega⟩
    simp only [incognitoref05_Parts.l0, pt]
    rw [if_neg (by omega), if_pos (by rw [List.length_drop]; omega)]
    rfl
  | succ n ih =>
    intro b o at_ k h0 h1 hl hb ho hk
    obtain ⟨k, rfl⟩ : ∃ m, k = m + 1 := ⟨k - 1, by omega⟩
    have hdl : (b.drop at_).length = b.length - at_ := List.length_drop
    simp only [incognitoref05_Parts.l0]
    rw [pt]
    by_cases c0 : (b.drop at_).length = 0
    · rw [if_neg (by omega), if_pos c0]; rfl
    rw [if_pos (by omega), if_neg c0, w64 (x := (b.length : Int) - at_) (by omega) (by omega)]
    by_cases c1 : (b.drop at_).length < 8
    · rw [if_pos (by omega), if_pos c1]; rfl
    rw [if_neg (by omega), if_neg c1]
    obtain ⟨k, rfl⟩ : ∃ m, k = m + 1 + 8 := ⟨k - 9, by omega⟩
    have hg := refnum_go b hl hb o at_ (by omega) 8 (k + 1) 0 (by omega) rfl
    rw [List.take_zero, show numL [] = 0 from rfl, show ((0 : Nat) : Int) = 0 from rfl] at hg
    have hn := numL_bd 8 ((b.drop at_).take 8) (by rw [List.length_take]; omega) (bytes_take (bytes_drop hb _) 8)
    by_cases c2 : (((b.drop at_).length : Int) - 8) < numL ((b.drop at_).take 8)
    · rw [if_pos c2]
      rcases hg with hg | ⟨hg, _⟩
      · rw [hg]
        simp only [incognitoref05_Parts.l1]
        rw [if_neg (by omega), w64 (x := (at_ : Int) + 8) (by omega) (by omega), w64 (x := (b.length : Int) - ((at_ : Int) + 8)) (by omega) (by omega), if_pos (by omega)]
        rfl
      · rw [hg]; rfl
    · rw [if_neg c2]
      rcases hg with hg | ⟨_, hg⟩
      case inr => exact absurd hg (by omega)
      rw [hg]
      obtain ⟨N, hN⟩ : ∃ N, numL ((b.drop at_).take 8) = N := ⟨_, rfl⟩
      rw [hN] at hn c2 ⊢
      obtain ⟨m, rfl⟩ : ∃ m : Nat, N = m := ⟨N.toNat, by omega⟩
      simp only [incognitoref05_Parts.l1]
      rw [if_neg (by omega), w64 (x := (at_ : Int) + 8) (by omega) (by omega), w64 (x := (b.length : Int) - ((at_ : Int) + 8)) (by omega) (by omega), w64 (x := (at_ : Int) + 8 + m) (by omega) (by omega), if_neg (by omega), if_pos (by omega), if_pos (by omega), if_pos (by omega), if_pos (by omega)]
      rw [show ((at_ : Int) + 8 + m).toNat = at_ + 8 + m by omega, show ((at_ : Int) + 8).toNat = at_ + 8 by omega, show (at_ : Int) + 8 + m = ((at_ + 8 + m : Nat) : Int) by omega, List.drop_take, show at_ + 8 + m - (at_ + 8) = m by omega,
        ih b _ (at_ + 8 + m) k (by omega) (by omega) hl hb (by rw [List.length_append]; simp; omega) (by omega), Int.toNat_natCast, List.drop_drop, List.drop_drop, List.drop_drop, show at_ + (8 + m) = at_ + 8 + m by omega]
theorem refparts_ev (b : List Int) (hl : b.length ≤ 1000) (hb : Bytes b) (k : Nat) (hk : 10 * b.length + 30 < k) : incognitoref05_Parts.f k b = some (resR (pt (b.length + 1) b [])) := by
  unfold incognitoref05_Parts.f
  have := refparts_go b.length b [] 0 k (by omega) (by omega) hl hb (by simp; omega) hk
  rw [List.drop_zero] at this
  exact this

end Go.Proofs.YtalghfnjelcpnaaDoor.TfL
